/- Lemmas that the tied card of ScannerValid is proved by. -/
import Derived.Shelf.Small.Utf8
import Derived.Shelf.Small.Bits
import Derived.Shelf.Small.Strs
import Derived.Shelf.Strconv.Atoi
import Derived.Shelf.Strconv.Itoa0
import Derived.Shelf.Strconv.Itoa1
import Derived.Shelf.LaysM
import Derived.Shelf.Strconv.Itoa2
import Derived.Shelf.Strconv.Itoa3
import Derived.Shelf.Strconv.AtoiErrFast
import Derived.Shelf.Strconv.ParseIntEmpty
import Derived.Shelf.Strconv.AtoiFail
import Derived.Shelf.Strconv.Clone
import Derived.Shelf.Strconv.SyntaxError
import Derived.Shelf.LaysC
import Derived.Shelf.Strconv.ToError
import Derived.Shelf.Strconv.Lower
import Derived.Shelf.Strconv.ParseUint10
import Derived.Shelf.Strconv.ParseUint10Empty
import Derived.Shelf.Strconv.ParseUint10Any
import Derived.Shelf.Strconv.ParseInt10
import Derived.Shelf.Strconv.AtoiLong
import Derived.Shelf.Strconv.AtoiInnerAll
import Derived.Shelf.Strconv.RangeError
import Derived.Shelf.Strconv.ToErrorRange
import Derived.Shelf.Strconv.AtoiAll
import Derived.Shelf.Strings.Search1
import Derived.Shelf.Strings.Search2
import Derived.Shelf.Strings.Search3
import Derived.Shelf.Strings.Count
import Derived.Shelf.Strings.Shaped
import Derived.Shelf.Strings.Split
import Derived.Shelf.Strings.Runes
import Derived.Shelf.Strings.AsciiSet
import Derived.Shelf.Unicode.DecodeSlow
import Derived.Test.YtokpcnppihgdlaaGreatDoorProg
import Derived.Test.YtokpcnppihgdlaaGreatDoorGl
import Derived.Lib.IndexLaws
import Derived.Test.YtokpcnppihgdlaaGreatDoorRows
import Derived.Shelf.Vars
import Derived.FnData
namespace Go.Proofs
open Go.Shelf
def Tryz.lays119_ren : Go.Shelf.Ren := ⟨fun | 119 => 175 | n => n, fun | 21 => 21 | 4 => 4 | n => n, fun | n => n⟩
theorem Tryz.lays119 : Go.Proofs.Lays.n119 Tryz.prog Tryz.lays119_ren := {
  mixed := by kernel_rfl
  f119 := Tryz.func175.trans (congrArg some (by kernel_rfl))
  t4 := Tryz.underlying4
  a4 := Tryz.isAgg4
  z4 := Tryz.sizeOf4
  v4 := Tryz.zeroValue4
  t21 := Tryz.underlying21
  a21 := Tryz.isAgg21
  z21 := Tryz.sizeOf21
  v21 := Tryz.zeroValue21 }
theorem Tryz.utf8_ValidRune (r : Int) (w : World) :
    Calls Tryz.prog 175 #[.int .i32 r] w fun e w' => e = .returned (.bool (Lib.validRune r)) ∧ w' = w := Any.utf8_ValidRune Tryz.lays119 r w
def Tryz.lays106_ren : Go.Shelf.Ren := ⟨fun | 106 => 55 | 213 => 89 | 265 => 120 | n => n, fun | 9 => 9 | 3 => 3 | n => n, fun | n => n⟩
theorem Tryz.lays106 : Go.Proofs.Lays.n106 Tryz.prog Tryz.lays106_ren := {
  mixed := by kernel_rfl
  f106 := Tryz.func55.trans (congrArg some (by kernel_rfl))
  f213 := Tryz.func89.trans (congrArg some (by kernel_rfl))
  f265 := Tryz.func120.trans (congrArg some (by kernel_rfl))
  t3 := Tryz.underlying3
  a3 := Tryz.isAgg3
  z3 := Tryz.sizeOf3
  v3 := Tryz.zeroValue3
  t9 := Tryz.underlying9
  a9 := Tryz.isAgg9
  z9 := Tryz.sizeOf9
  v9 := Tryz.zeroValue9 }
open Go.RowKit in
theorem Tryz.strings_Compare (a b : ByteArray) (w : World) :
    Calls Tryz.prog 55 #[.string a, .string b] w fun e w' => e = .returned (.int .i64 (Lib.compareBytes a.data.toList b.data.toList)) ∧ w' = w := Any.strings_Compare Tryz.lays106 a b w
def Tryz.lays137_ren : Go.Shelf.Ren := ⟨fun | 137 => 174 | 217 => 189 | 266 => 197 | n => n, fun | 9 => 9 | 5 => 5 | 3 => 3 | n => n, fun | n => n⟩
theorem Tryz.lays137 : Go.Proofs.Lays.n137 Tryz.prog Tryz.lays137_ren := {
  mixed := by kernel_rfl
  f137 := Tryz.func174.trans (congrArg some (by kernel_rfl))
  f217 := Tryz.func189.trans (congrArg some (by kernel_rfl))
  f266 := Tryz.func197.trans (congrArg some (by kernel_rfl))
  t3 := Tryz.underlying3
  a3 := Tryz.isAgg3
  z3 := Tryz.sizeOf3
  v3 := Tryz.zeroValue3
  t5 := Tryz.underlying5
  a5 := Tryz.isAgg5
  z5 := Tryz.sizeOf5
  v5 := Tryz.zeroValue5
  t9 := Tryz.underlying9
  a9 := Tryz.isAgg9
  z9 := Tryz.sizeOf9
  v9 := Tryz.zeroValue9 }
open Go.RowKit in
theorem Tryz.strings_IndexByte (s : ByteArray) (c : Int) (w : World) :
    Calls Tryz.prog 174 #[.string s, .int .u8 c] w fun e w' => e = .returned (.int .i64 (Lib.indexByte s.data.toList c.toNat.toUInt8)) ∧ w' = w := Any.strings_IndexByte Tryz.lays137 s c w
def Tryz.lays171_ren : Go.Shelf.Ren := ⟨fun | 171 => 172 | 243 => 188 | 246 => 196 | 283 => 201 | 284 => 202 | 285 => 203 | 286 => 204 | 129 => 119 | 317 => 206 | 318 => 207 | 319 => 208 | 320 => 209 | 337 => 210 | 338 => 211 | n => n, fun | 3 => 3 | 9 => 9 | 2 => 2 | 4 => 4 | 171 => 220 | 0 => 0 | 53 => 91 | 37 => 114 | 5 => 5 | 173 => 222 | 212 => 227 | 51 => 143 | 20 => 20 | 213 => 228 | 46 => 120 | 232 => 229 | 233 => 230 | n => n, fun | 17 => 5 | 18 => 6 | 19 => 7 | n => n⟩
theorem Tryz.lays171 : Go.Proofs.Lays.n171 Tryz.prog Tryz.lays171_ren := {
  mixed := by kernel_rfl
  f129 := Tryz.func119.trans (congrArg some (by kernel_rfl))
  f171 := Tryz.func172.trans (congrArg some (by kernel_rfl))
  f243 := Tryz.func188.trans (congrArg some (by kernel_rfl))
  f246 := Tryz.func196.trans (congrArg some (by kernel_rfl))
  f283 := Tryz.func201.trans (congrArg some (by kernel_rfl))
  f284 := Tryz.func202.trans (congrArg some (by kernel_rfl))
  f285 := Tryz.func203.trans (congrArg some (by kernel_rfl))
  f286 := Tryz.func204.trans (congrArg some (by kernel_rfl))
  f317 := Tryz.func206.trans (congrArg some (by kernel_rfl))
  f318 := Tryz.func207.trans (congrArg some (by kernel_rfl))
  f319 := Tryz.func208.trans (congrArg some (by kernel_rfl))
  f320 := Tryz.func209.trans (congrArg some (by kernel_rfl))
  f337 := Tryz.func210.trans (congrArg some (by kernel_rfl))
  f338 := Tryz.func211.trans (congrArg some (by kernel_rfl))
  t0 := Tryz.underlying0
  a0 := Tryz.isAgg0
  z0 := Tryz.sizeOf0
  v0 := Tryz.zeroValue0
  t2 := Tryz.underlying2
  a2 := Tryz.isAgg2
  z2 := Tryz.sizeOf2
  v2 := Tryz.zeroValue2
  t3 := Tryz.underlying3
  a3 := Tryz.isAgg3
  z3 := Tryz.sizeOf3
  v3 := Tryz.zeroValue3
  t4 := Tryz.underlying4
  a4 := Tryz.isAgg4
  z4 := Tryz.sizeOf4
  v4 := Tryz.zeroValue4
  t5 := Tryz.underlying5
  a5 := Tryz.isAgg5
  z5 := Tryz.sizeOf5
  v5 := Tryz.zeroValue5
  t9 := Tryz.underlying9
  a9 := Tryz.isAgg9
  z9 := Tryz.sizeOf9
  v9 := Tryz.zeroValue9
  t20 := Tryz.underlying20
  a20 := Tryz.isAgg20
  z20 := Tryz.sizeOf20
  v20 := Tryz.zeroValue20
  t37 := Tryz.underlying114
  a37 := Tryz.isAgg114
  z37 := Tryz.sizeOf114
  v37 := Tryz.zeroValue114
  t46 := Tryz.underlying120
  a46 := Tryz.isAgg120
  z46 := Tryz.sizeOf120
  v46 := Tryz.zeroValue120
  t51 := Tryz.underlying143
  a51 := Tryz.isAgg143
  z51 := Tryz.sizeOf143
  v51 := Tryz.zeroValue143
  t53 := Tryz.underlying91
  a53 := Tryz.isAgg91
  z53 := Tryz.sizeOf91
  v53 := Tryz.zeroValue91
  t171 := Tryz.underlying220
  a171 := Tryz.isAgg220
  z171 := Tryz.sizeOf220
  v171 := Tryz.zeroValue220
  t173 := Tryz.underlying222
  a173 := Tryz.isAgg222
  z173 := Tryz.sizeOf222
  v173 := Tryz.zeroValue222
  t212 := Tryz.underlying227
  a212 := Tryz.isAgg227
  z212 := Tryz.sizeOf227
  v212 := Tryz.zeroValue227
  t213 := Tryz.underlying228
  a213 := Tryz.isAgg228
  z213 := Tryz.sizeOf228
  t232 := Tryz.underlying229
  a232 := Tryz.isAgg229
  z232 := Tryz.sizeOf229
  v232 := Tryz.zeroValue229
  t233 := Tryz.underlying230
  a233 := Tryz.isAgg230
  z233 := Tryz.sizeOf230
  v233 := Tryz.zeroValue230
  g17 := by kernel_rfl
  g18 := by kernel_rfl
  g19 := by kernel_rfl }
open Go.RowKit Go.Sort Go.Lib in
theorem Tryz.strconv_Itoa_small (i : Nat) (hi : i < 100) (w : World) :
    Calls Tryz.prog 172 #[.int .i64 i] w fun e w' => e = .returned (.string ⟨(Lib.decDigits i).toArray⟩) ∧ w' = w := Any.strconv_Itoa_small Tryz.lays171 i hi w
def Tryz.laysC172_ren : Go.Shelf.Ren := ⟨fun | 172 => 159 | 244 => 168 | 245 => 169 | 247 => 183 | 279 => 184 | 280 => 185 | 281 => 186 | 282 => 187 | 287 => 193 | 316 => 194 | 171 => 172 | 205 => 195 | 321 => 199 | 322 => 200 | 243 => 188 | 246 => 196 | 283 => 201 | 284 => 202 | 285 => 203 | 286 => 204 | 129 => 119 | 317 => 206 | 318 => 207 | 319 => 208 | 320 => 209 | 337 => 210 | 338 => 211 | n => n, fun | 9 => 9 | 3 => 3 | 75 => 181 | 76 => 182 | 4 => 4 | 5 => 5 | 167 => 198 | 37 => 114 | 0 => 0 | 85 => 199 | 2 => 2 | 168 => 201 | 53 => 91 | 175 => 208 | 46 => 120 | 210 => 212 | 127 => 216 | 145 => 219 | 143 => 217 | 21 => 21 | 171 => 220 | 173 => 222 | 212 => 227 | 51 => 143 | 20 => 20 | 213 => 228 | 232 => 229 | 233 => 230 | 80 => 71 | n => n, fun | 15 => 3 | 16 => 4 | 17 => 5 | 18 => 6 | 19 => 7 | n => n⟩
theorem Tryz.laysC172 : Go.Proofs.LaysC.n172 Tryz.prog Tryz.laysC172_ren := {
  mixed := by kernel_rfl
  f129 := Tryz.func119.trans (congrArg some (by kernel_rfl))
  f171 := Tryz.func172.trans (congrArg some (by kernel_rfl))
  f172 := Tryz.func159.trans (congrArg some (by kernel_rfl))
  f205 := Tryz.func195.trans (congrArg some (by kernel_rfl))
  f243 := Tryz.func188.trans (congrArg some (by kernel_rfl))
  f244 := Tryz.func168.trans (congrArg some (by kernel_rfl))
  f245 := Tryz.func169.trans (congrArg some (by kernel_rfl))
  f246 := Tryz.func196.trans (congrArg some (by kernel_rfl))
  f247 := Tryz.func183.trans (congrArg some (by kernel_rfl))
  f279 := Tryz.func184.trans (congrArg some (by kernel_rfl))
  f280 := Tryz.func185.trans (congrArg some (by kernel_rfl))
  f281 := Tryz.func186.trans (congrArg some (by kernel_rfl))
  f282 := Tryz.func187.trans (congrArg some (by kernel_rfl))
  f283 := Tryz.func201.trans (congrArg some (by kernel_rfl))
  f284 := Tryz.func202.trans (congrArg some (by kernel_rfl))
  f285 := Tryz.func203.trans (congrArg some (by kernel_rfl))
  f286 := Tryz.func204.trans (congrArg some (by kernel_rfl))
  f287 := Tryz.func193.trans (congrArg some (by kernel_rfl))
  f316 := Tryz.func194.trans (congrArg some (by kernel_rfl))
  f317 := Tryz.func206.trans (congrArg some (by kernel_rfl))
  f318 := Tryz.func207.trans (congrArg some (by kernel_rfl))
  f319 := Tryz.func208.trans (congrArg some (by kernel_rfl))
  f320 := Tryz.func209.trans (congrArg some (by kernel_rfl))
  f321 := Tryz.func199.trans (congrArg some (by kernel_rfl))
  f322 := Tryz.func200.trans (congrArg some (by kernel_rfl))
  f337 := Tryz.func210.trans (congrArg some (by kernel_rfl))
  f338 := Tryz.func211.trans (congrArg some (by kernel_rfl))
  t0 := Tryz.underlying0
  a0 := Tryz.isAgg0
  z0 := Tryz.sizeOf0
  v0 := Tryz.zeroValue0
  t2 := Tryz.underlying2
  a2 := Tryz.isAgg2
  z2 := Tryz.sizeOf2
  v2 := Tryz.zeroValue2
  t3 := Tryz.underlying3
  a3 := Tryz.isAgg3
  z3 := Tryz.sizeOf3
  v3 := Tryz.zeroValue3
  t4 := Tryz.underlying4
  a4 := Tryz.isAgg4
  z4 := Tryz.sizeOf4
  v4 := Tryz.zeroValue4
  t5 := Tryz.underlying5
  a5 := Tryz.isAgg5
  z5 := Tryz.sizeOf5
  v5 := Tryz.zeroValue5
  t9 := Tryz.underlying9
  a9 := Tryz.isAgg9
  z9 := Tryz.sizeOf9
  v9 := Tryz.zeroValue9
  t20 := Tryz.underlying20
  a20 := Tryz.isAgg20
  z20 := Tryz.sizeOf20
  v20 := Tryz.zeroValue20
  t21 := Tryz.underlying21
  a21 := Tryz.isAgg21
  z21 := Tryz.sizeOf21
  v21 := Tryz.zeroValue21
  t37 := Tryz.underlying114
  a37 := Tryz.isAgg114
  z37 := Tryz.sizeOf114
  v37 := Tryz.zeroValue114
  t46 := Tryz.underlying120
  a46 := Tryz.isAgg120
  z46 := Tryz.sizeOf120
  v46 := Tryz.zeroValue120
  t51 := Tryz.underlying143
  a51 := Tryz.isAgg143
  z51 := Tryz.sizeOf143
  v51 := Tryz.zeroValue143
  t53 := Tryz.underlying91
  a53 := Tryz.isAgg91
  z53 := Tryz.sizeOf91
  v53 := Tryz.zeroValue91
  t75 := Tryz.underlying181
  a75 := Tryz.isAgg181
  z75 := Tryz.sizeOf181
  v75 := Tryz.zeroValue181
  t76 := Tryz.underlying182
  a76 := Tryz.isAgg182
  z76 := Tryz.sizeOf182
  v76 := Tryz.zeroValue182
  t85 := Tryz.underlying199
  a85 := Tryz.isAgg199
  z85 := Tryz.sizeOf199
  v85 := Tryz.zeroValue199
  t127 := Tryz.underlying216
  a127 := Tryz.isAgg216
  z127 := Tryz.sizeOf216
  v127 := Tryz.zeroValue216
  t143 := Tryz.underlying217
  a143 := Tryz.isAgg217
  z143 := Tryz.sizeOf217
  v143 := Tryz.zeroValue217
  t145 := Tryz.underlying219
  a145 := Tryz.isAgg219
  z145 := Tryz.sizeOf219
  v145 := Tryz.zeroValue219
  t167 := Tryz.underlying198
  a167 := Tryz.isAgg198
  z167 := Tryz.sizeOf198
  v167 := Tryz.zeroValue198
  t168 := Tryz.underlying201
  a168 := Tryz.isAgg201
  z168 := Tryz.sizeOf201
  v168 := Tryz.zeroValue201
  t171 := Tryz.underlying220
  a171 := Tryz.isAgg220
  z171 := Tryz.sizeOf220
  v171 := Tryz.zeroValue220
  t173 := Tryz.underlying222
  a173 := Tryz.isAgg222
  z173 := Tryz.sizeOf222
  v173 := Tryz.zeroValue222
  t175 := Tryz.underlying208
  a175 := Tryz.isAgg208
  z175 := Tryz.sizeOf208
  v175 := Tryz.zeroValue208
  t210 := Tryz.underlying212
  a210 := Tryz.isAgg212
  z210 := Tryz.sizeOf212
  v210 := Tryz.zeroValue212
  t212 := Tryz.underlying227
  a212 := Tryz.isAgg227
  z212 := Tryz.sizeOf227
  v212 := Tryz.zeroValue227
  t213 := Tryz.underlying228
  a213 := Tryz.isAgg228
  z213 := Tryz.sizeOf228
  t232 := Tryz.underlying229
  a232 := Tryz.isAgg229
  z232 := Tryz.sizeOf229
  v232 := Tryz.zeroValue229
  t233 := Tryz.underlying230
  a233 := Tryz.isAgg230
  z233 := Tryz.sizeOf230
  v233 := Tryz.zeroValue230
  g15 := by kernel_rfl
  g16 := by kernel_rfl
  g17 := by kernel_rfl
  g18 := by kernel_rfl
  g19 := by kernel_rfl
  t80 := Tryz.underlying71
  a80 := Tryz.isAgg71
  z80 := Tryz.sizeOf71
  v80 := Tryz.zeroValue71
  i0 := by kernel_rfl
  i2 := by kernel_rfl
  i3 := by kernel_rfl
  i4 := by kernel_rfl
  i5 := by kernel_rfl
  i9 := by kernel_rfl
  i20 := by kernel_rfl
  i21 := by kernel_rfl
  i37 := by kernel_rfl
  i46 := by kernel_rfl
  i51 := by kernel_rfl
  i53 := by kernel_rfl
  i75 := by kernel_rfl
  i76 := by kernel_rfl
  i80 := by kernel_rfl
  i85 := by kernel_rfl
  i127 := by kernel_rfl
  i143 := by kernel_rfl
  i145 := by kernel_rfl
  i167 := by kernel_rfl
  i168 := by kernel_rfl
  i171 := by kernel_rfl
  i173 := by kernel_rfl
  i175 := by kernel_rfl
  i210 := by kernel_rfl
  i212 := by kernel_rfl
  i232 := by kernel_rfl
  i233 := by kernel_rfl
  m15 := by kernel_rfl
  m16 := by kernel_rfl
  m17 := by kernel_rfl
  m18 := by kernel_rfl
  m19 := by kernel_rfl
  c0 := by kernel_rfl
  c2 := by kernel_rfl
  c3 := by kernel_rfl
  c4 := by kernel_rfl
  c5 := by kernel_rfl
  c9 := by kernel_rfl
  c20 := by kernel_rfl
  c21 := by kernel_rfl
  c37 := by kernel_rfl
  c46 := by kernel_rfl
  c51 := by kernel_rfl
  c53 := by kernel_rfl
  c75 := by kernel_rfl
  c76 := by kernel_rfl
  c80 := by kernel_rfl
  c85 := by kernel_rfl
  c127 := by kernel_rfl
  c143 := by kernel_rfl
  c145 := by kernel_rfl
  c167 := by kernel_rfl
  c168 := by kernel_rfl
  c171 := by kernel_rfl
  c173 := by kernel_rfl
  c175 := by kernel_rfl
  c210 := by kernel_rfl
  c212 := by kernel_rfl
  c213 := by kernel_rfl
  c232 := by kernel_rfl
  c233 := by kernel_rfl }
open Go.RowKit in
theorem Tryz.strconv_Atoi_ok (s : ByteArray) (hmax : s.size ≤ 9223372036854775806) (v : Int) (h : Lib.atoiAll s.data.toList = .ok v) (w : World) :
    Calls Tryz.prog 159 #[.string s] w fun e w' => e = .returned (.tuple #[.int .i64 v, .nilIface]) ∧ (w' = w ∨ ∃ t, w' = Lib.bytesWorld w 5 t) := Any.strconv_Atoi_ok Tryz.laysC172 s hmax v h w
def Tryz.lays146_ren : Go.Shelf.Ren := ⟨fun | 146 => 158 | 221 => 167 | 268 => 180 | 138 => 181 | 143 => 182 | 195 => 190 | 197 => 165 | 218 => 191 | 219 => 192 | 260 => 178 | 217 => 189 | 225 => 177 | 224 => 176 | 267 => 198 | 266 => 197 | 314 => 205 | n => n, fun | 9 => 9 | 31 => 80 | 3 => 3 | 4 => 4 | 0 => 0 | 105 => 190 | 21 => 21 | 5 => 5 | 46 => 120 | 119 => 204 | 139 => 207 | 138 => 206 | 146 => 224 | 51 => 143 | n => n, fun | 1 => 0 | 3 => 1 | 4 => 2 | n => n⟩
theorem Tryz.lays146 : Go.Proofs.Lays.n146 Tryz.prog Tryz.lays146_ren := {
  mixed := by kernel_rfl
  f138 := Tryz.func181.trans (congrArg some (by kernel_rfl))
  f143 := Tryz.func182.trans (congrArg some (by kernel_rfl))
  f146 := Tryz.func158.trans (congrArg some (by kernel_rfl))
  f195 := Tryz.func190.trans (congrArg some (by kernel_rfl))
  f197 := Tryz.func165.trans (congrArg some (by kernel_rfl))
  f217 := Tryz.func189.trans (congrArg some (by kernel_rfl))
  f218 := Tryz.func191.trans (congrArg some (by kernel_rfl))
  f219 := Tryz.func192.trans (congrArg some (by kernel_rfl))
  f221 := Tryz.func167.trans (congrArg some (by kernel_rfl))
  f224 := Tryz.func176.trans (congrArg some (by kernel_rfl))
  f225 := Tryz.func177.trans (congrArg some (by kernel_rfl))
  f260 := Tryz.func178.trans (congrArg some (by kernel_rfl))
  f266 := Tryz.func197.trans (congrArg some (by kernel_rfl))
  f267 := Tryz.func198.trans (congrArg some (by kernel_rfl))
  f268 := Tryz.func180.trans (congrArg some (by kernel_rfl))
  f314 := Tryz.func205.trans (congrArg some (by kernel_rfl))
  t0 := Tryz.underlying0
  a0 := Tryz.isAgg0
  z0 := Tryz.sizeOf0
  v0 := Tryz.zeroValue0
  t3 := Tryz.underlying3
  a3 := Tryz.isAgg3
  z3 := Tryz.sizeOf3
  v3 := Tryz.zeroValue3
  t4 := Tryz.underlying4
  a4 := Tryz.isAgg4
  z4 := Tryz.sizeOf4
  v4 := Tryz.zeroValue4
  t5 := Tryz.underlying5
  a5 := Tryz.isAgg5
  z5 := Tryz.sizeOf5
  v5 := Tryz.zeroValue5
  t9 := Tryz.underlying9
  a9 := Tryz.isAgg9
  z9 := Tryz.sizeOf9
  v9 := Tryz.zeroValue9
  t21 := Tryz.underlying21
  a21 := Tryz.isAgg21
  z21 := Tryz.sizeOf21
  v21 := Tryz.zeroValue21
  t31 := Tryz.underlying80
  a31 := Tryz.isAgg80
  z31 := Tryz.sizeOf80
  v31 := Tryz.zeroValue80
  t46 := Tryz.underlying120
  a46 := Tryz.isAgg120
  z46 := Tryz.sizeOf120
  v46 := Tryz.zeroValue120
  t51 := Tryz.underlying143
  a51 := Tryz.isAgg143
  z51 := Tryz.sizeOf143
  v51 := Tryz.zeroValue143
  t105 := Tryz.underlying190
  a105 := Tryz.isAgg190
  z105 := Tryz.sizeOf190
  v105 := Tryz.zeroValue190
  t119 := Tryz.underlying204
  a119 := Tryz.isAgg204
  z119 := Tryz.sizeOf204
  t138 := Tryz.underlying206
  a138 := Tryz.isAgg206
  z138 := Tryz.sizeOf206
  v138 := Tryz.zeroValue206
  t139 := Tryz.underlying207
  a139 := Tryz.isAgg207
  z139 := Tryz.sizeOf207
  v139 := Tryz.zeroValue207
  t146 := Tryz.underlying224
  a146 := Tryz.isAgg224
  z146 := Tryz.sizeOf224
  v146 := Tryz.zeroValue224
  g1 := by kernel_rfl
  g3 := by kernel_rfl
  g4 := by kernel_rfl }
open Go.RowKit Go.Lib in
theorem Tryz.strings_Split (s sep : ByteArray) (m : Int) (w : World) (hs : s.size < 4294967281) (hm : w.cell? ⟨0, 0, none⟩ = some (.int .i64 m)) (h1 : 1 ≤ sep.size) :
    Calls Tryz.prog 158 #[.string s, .string sep] w fun e w' =>
      e = .returned (.slice (some ⟨w.heap.size, 0, none⟩) (Lib.countB s sep + 1) (Lib.countB s sep + 1)) ∧ w' = w.alloc (.cells ((Lib.splitB sep 0 (Lib.countB s sep) s).map Value.string).toArray 9) := Any.strings_Split Tryz.lays146 (by kernel_rfl) s sep m w hs hm h1
def Tryz.lays151_ren : Go.Shelf.Ren := ⟨fun | 151 => 146 | 152 => 162 | 137 => 174 | 119 => 175 | 224 => 176 | 225 => 177 | 217 => 189 | 266 => 197 | n => n, fun | 9 => 9 | 21 => 21 | 4 => 4 | 3 => 3 | 5 => 5 | 0 => 0 | 46 => 120 | n => n, fun | n => n⟩
theorem Tryz.lays151 : Go.Proofs.Lays.n151 Tryz.prog Tryz.lays151_ren := {
  mixed := by kernel_rfl
  f119 := Tryz.func175.trans (congrArg some (by kernel_rfl))
  f137 := Tryz.func174.trans (congrArg some (by kernel_rfl))
  f151 := Tryz.func146.trans (congrArg some (by kernel_rfl))
  f152 := Tryz.func162.trans (congrArg some (by kernel_rfl))
  f217 := Tryz.func189.trans (congrArg some (by kernel_rfl))
  f224 := Tryz.func176.trans (congrArg some (by kernel_rfl))
  f225 := Tryz.func177.trans (congrArg some (by kernel_rfl))
  f266 := Tryz.func197.trans (congrArg some (by kernel_rfl))
  t0 := Tryz.underlying0
  a0 := Tryz.isAgg0
  z0 := Tryz.sizeOf0
  v0 := Tryz.zeroValue0
  t3 := Tryz.underlying3
  a3 := Tryz.isAgg3
  z3 := Tryz.sizeOf3
  v3 := Tryz.zeroValue3
  t4 := Tryz.underlying4
  a4 := Tryz.isAgg4
  z4 := Tryz.sizeOf4
  v4 := Tryz.zeroValue4
  t5 := Tryz.underlying5
  a5 := Tryz.isAgg5
  z5 := Tryz.sizeOf5
  v5 := Tryz.zeroValue5
  t9 := Tryz.underlying9
  a9 := Tryz.isAgg9
  z9 := Tryz.sizeOf9
  v9 := Tryz.zeroValue9
  t21 := Tryz.underlying21
  a21 := Tryz.isAgg21
  z21 := Tryz.sizeOf21
  v21 := Tryz.zeroValue21
  t46 := Tryz.underlying120
  a46 := Tryz.isAgg120
  z46 := Tryz.sizeOf120
  v46 := Tryz.zeroValue120 }
open Go.RowKit Go.Lib in
theorem Tryz.strings_ContainsRune_ascii (s : ByteArray) (r : Int) (w : World) (h0 : 0 ≤ r) (h1 : r < 128) :
    Calls Tryz.prog 146 #[.string s, .int .i32 r] w fun e w' => e = .returned (.bool (decide (0 ≤ Lib.indexByte s.data.toList r.toNat.toUInt8))) ∧ w' = w := Any.strings_ContainsRune_ascii Tryz.lays151 s r w h0 h1
def Tryz.lays227_ren : Go.Shelf.Ren := ⟨fun | 227 => 153 | n => n, fun | 9 => 9 | 116 => 174 | 4 => 4 | 0 => 0 | 3 => 3 | 5 => 5 | n => n, fun | n => n⟩
theorem Tryz.lays227 : Go.Proofs.Lays.n227 Tryz.prog Tryz.lays227_ren := {
  mixed := by kernel_rfl
  f227 := Tryz.func153.trans (congrArg some (by kernel_rfl))
  t0 := Tryz.underlying0
  a0 := Tryz.isAgg0
  z0 := Tryz.sizeOf0
  v0 := Tryz.zeroValue0
  t3 := Tryz.underlying3
  a3 := Tryz.isAgg3
  z3 := Tryz.sizeOf3
  v3 := Tryz.zeroValue3
  t4 := Tryz.underlying4
  a4 := Tryz.isAgg4
  z4 := Tryz.sizeOf4
  v4 := Tryz.zeroValue4
  t5 := Tryz.underlying5
  a5 := Tryz.isAgg5
  z5 := Tryz.sizeOf5
  v5 := Tryz.zeroValue5
  t9 := Tryz.underlying9
  a9 := Tryz.isAgg9
  z9 := Tryz.sizeOf9
  v9 := Tryz.zeroValue9
  t116 := Tryz.underlying174
  a116 := Tryz.isAgg174
  z116 := Tryz.sizeOf174 }
open Go.RowKit Go.Lib in
theorem Tryz.strings_makeASCIISet (hv116 : ∀ w, (zeroValue 174).run Tryz.prog w = .ok (.agg (Array.replicate 256 (.bool false))) w) (chars : ByteArray) (w : World) (hs : chars.size < 4294967281) (hascii : ∀ (j : Nat) b, chars.data.toList[j]? = some b → b.toNat < 128) :
    Calls Tryz.prog 153 #[.string chars] w fun e w' => e = .returned (.tuple #[.agg (Lib.setCells chars.data.toList), .bool true]) ∧ w' = w.alloc (.cells (Lib.setCells chars.data.toList) 174) := Any.strings_makeASCIISet Tryz.lays227 hv116 (by kernel_rfl) chars w hs hascii
def Tryz.lays228_ren : Go.Shelf.Ren := ⟨fun | 228 => 164 | n => n, fun | 124 => 178 | 5 => 5 | 4 => 4 | 0 => 0 | 116 => 174 | n => n, fun | n => n⟩
theorem Tryz.lays228 : Go.Proofs.Lays.n228 Tryz.prog Tryz.lays228_ren := {
  mixed := by kernel_rfl
  f228 := Tryz.func164.trans (congrArg some (by kernel_rfl))
  t0 := Tryz.underlying0
  a0 := Tryz.isAgg0
  z0 := Tryz.sizeOf0
  v0 := Tryz.zeroValue0
  t4 := Tryz.underlying4
  a4 := Tryz.isAgg4
  z4 := Tryz.sizeOf4
  v4 := Tryz.zeroValue4
  t5 := Tryz.underlying5
  a5 := Tryz.isAgg5
  z5 := Tryz.sizeOf5
  v5 := Tryz.zeroValue5
  t116 := Tryz.underlying174
  a116 := Tryz.isAgg174
  z116 := Tryz.sizeOf174
  t124 := Tryz.underlying178
  a124 := Tryz.isAgg178
  z124 := Tryz.sizeOf178
  v124 := Tryz.zeroValue178 }
open Go.RowKit Go.Lib in
theorem Tryz.asciiSet_contains (b : Nat) (x : UInt8) (v : Bool) (w : World) (hc : w.cell? ⟨b, x.toNat, none⟩ = some (.bool v)) :
    Calls Tryz.prog 164 #[.pointer (some ⟨b, 0, none⟩), .int .u8 x.toNat] w fun e w' => e = .returned (.bool v) ∧ w' = w := Any.asciiSet_contains Tryz.lays228 b x v w hc
end Go.Proofs
/- Runes: plain functions. -/
namespace Go.Eng

def ascii (s : List UInt8) : Bool := s.all fun b => decide (b.toNat < 128)
theorem ascii_at {s : List UInt8} (h : ascii s = true) {k : Nat} (hk : k < s.length) : (s.getD k 0).toNat < 128 := by
  have := List.all_eq_true.1 h (s.getD k 0) (by simp [List.getD, hk])
  exact of_decide_eq_true this
theorem ascii_drop {s : List UInt8} (h : ascii s = true) (n : Nat) : ascii (s.drop n) = true := List.all_eq_true.2 fun b hb => List.all_eq_true.1 h b (List.mem_of_mem_drop hb)

theorem runeAt_lo {s : List UInt8} {k : Nat} (hk : k < s.length) (h : (s.getD k 0).toNat < 128) : runeAt s k = ((s.getD k 0).toNat, 1) := by
  have e : (ByteArray.get! ⟨s.toArray⟩ (k + 0)) = s.getD k 0 := by simp [ByteArray.get!, hk]
  unfold runeAt Utf8.decode
  simp only [e, h, if_true]

theorem runeAt_hi {s : List UInt8} {k : Nat} (hk : k < s.length) (h : 128 ≤ (s.getD k 0).toNat) : 128 ≤ (runeAt s k).1 ∧ (runeAt s k).1 ≤ 1114111 ∧ 1 ≤ (runeAt s k).2 := by
  have e : (ByteArray.get! ⟨s.toArray⟩ (k + 0)) = s.getD k 0 := by simp [ByteArray.get!, hk]
  have hb : (s.getD k 0).toNat < 256 := (s.getD k 0).toNat_lt
  unfold runeAt Utf8.decode
  simp only [e, show ¬ (s.getD k 0).toNat < 128 by omega, if_false, Utf8.runeError]
  repeat' split
  all_goals simp only [Utf8.valid, Bool.and_eq_true, decide_eq_true_eq, Bool.or_eq_true, beq_iff_eq] at *
  all_goals omega

theorem runeAt_pos {s : List UInt8} {k : Nat} (hk : k < s.length) : 1 ≤ (runeAt s k).2 := by
  by_cases h : (s.getD k 0).toNat < 128
  · rw [runeAt_lo hk h]; exact Nat.le_refl _
  · exact (runeAt_hi hk (by omega)).2.2
theorem runeAt_le {s : List UInt8} {k : Nat} (hk : k < s.length) : (runeAt s k).1 ≤ 1114111 := by
  by_cases h : (s.getD k 0).toNat < 128
  · rw [runeAt_lo hk h]; show (s.getD k 0).toNat ≤ 1114111; omega
  · exact (runeAt_hi hk (by omega)).2.1

theorem encode_last {r : Int} (h : 128 ≤ r) (hv : Lib.validRune r = true) : 2 ≤ (Utf8.encode r).data.toList.length ∧ (Utf8.encode r).data.toList.length ≤ 4 ∧ 128 ≤ ((Utf8.encode r).data.toList.getD ((Utf8.encode r).data.toList.length - 1) 0).toNat := by
  have hv' : Utf8.valid r = true := by
    simp only [Lib.validRune, decide_eq_true_eq] at hv
    simp [Utf8.valid]
    omega
  simp only [Lib.validRune, decide_eq_true_eq] at hv
  unfold Utf8.encode
  simp only [hv', if_true]
  generalize hc : r.toNat = c
  have h1 : 128 ≤ c := by omega
  have h2 : c ≤ 1114111 := by omega
  simp only [show ¬ c < 128 by omega, if_false]
  repeat' split
  all_goals simp
  all_goals omega

theorem u8_round (b : UInt8) : (b.toNat : Int).toNat.toUInt8 = b := by simp

theorem indexByte_ascii {s : List UInt8} (h : ascii s = true) {c : UInt8} (hc : 128 ≤ c.toNat) : Lib.indexByte s c = -1 := by
  induction s with
  | nil => rfl
  | cons b l ih =>
    simp only [ascii, List.all_cons, Bool.and_eq_true, decide_eq_true_eq] at h
    have hne : (b == c) = false := by
      cases hb : b == c with
      | false => rfl
      | true => have := eq_of_beq hb; subst this; omega
    simp only [Lib.indexByte, hne, ih h.2]
    rfl

def runeIn (s : List UInt8) (r : Int) : Bool := decide (0 ≤ r) && decide (r < 128) && s.contains (UInt8.ofNat r.toNat)
def idxRune (s : List UInt8) (r : Int) : Int := match decide (r < 128) with
  | true => Lib.indexByte s r.toNat.toUInt8
  | false => -1
def S_indexByte : Spec
  | [.str s, .int .u8 c], [] => some (.int .i64 (Lib.indexByte s c.toNat.toUInt8), [], True)
  | _, _ => none
def S_validRune : Spec
  | [.int .i32 r], [] => some (.bool (Lib.validRune r), [], True)
  | _, _ => none
def S_indexRune : Spec
  | [.str s, .int .i32 r], [] => some (.int .i64 (idxRune s r), [], ascii s = true ∧ s.length ≤ 1000000 ∧ 0 ≤ r ∧ r ≤ 1114111)
  | _, _ => none
def S_containsRune : Spec
  | [.str s, .int .i32 r], [] => some (.bool (decide (0 ≤ idxRune s r)), [], ascii s = true ∧ s.length ≤ 1000000 ∧ 0 ≤ r ∧ r ≤ 1114111)
  | _, _ => none
def S_irState (s : List UInt8) (pos : Nat) : St := ⟨[(0, .str s), (175, .ptr 0 0)], [(0, .siter s pos)], 1, []⟩
/-- The search for U+FFFD in an ASCII string. -/
def L_irError (s : List UInt8) : LSpec := fun st Q => canonIs te 0 [0, 175] st (S_irState s 0) ∧ ascii s = true ∧ Q (.exit 9) ⟨[], [], 0, []⟩
def S_irState2 (s e : List UInt8) : St := ⟨[(0, .str s), (7, .str e), (8, .int .i64 ((e.length : Int) - 1)), (9, .int .i64 ((e.length : Int) - 1))], [], 0, []⟩
/-- The search for a rune beyond ASCII in an ASCII string. -/
def L_irMain (s e : List UInt8) : LSpec := fun st Q => canonIs te 0 [0, 7, 8, 9] st (S_irState2 s e) ∧ ascii s = true ∧ s.length ≤ 1000000 ∧ 2 ≤ e.length ∧ e.length ≤ 4 ∧ 128 ≤ (e.getD (e.length - 1) 0).toNat ∧
  Q (.exit 1) ⟨[], [], 0, []⟩ ∧ Q .ret ⟨[(4, .int .i64 (-1))], [], 0, []⟩

end Go.Eng
/- What the package product computes: plain functions. -/
namespace Go.Eng

def isDig (c : UInt8) : Bool := decide (48 ≤ c.toNat) && decide (c.toNat ≤ 57)
def digitsF (s : List UInt8) (a b : Int) : Bool := (decide ((s.length : Int) = a) || decide ((s.length : Int) = b)) && s.all isDig
def S_digits : Spec
  | [.str s, .int .i64 a, .int .i64 b], [] => some (.bool (digitsF s a b), [], a ≤ 100 ∧ b ≤ 100)
  | _, _ => none
/-- The weighted sum of the first i digits. -/
def cdSum (s : List UInt8) : Nat → Int
  | 0 => 0
  | i + 1 => cdSum s i + (1 + 2 * (((s.length : Int) - i) % 2)) * ((s.getD i 0).toNat - 48)
def cdF (s : List UInt8) : Int × Bool := match digitsF s 7 12 with
  | true => ((10 - cdSum s s.length % 10) % 10, true)
  | false => (0, false)
def S_checkDigit : Spec
  | [.str s], [] => some (.tuple [.int .i64 (cdF s).1, .bool (cdF s).2], [], True)
  | _, _ => none
def S_cd (s : List UInt8) (k : Nat) : St := ⟨[(0, .str s), (4, .int .i64 (cdSum s k)), (11, .int .i64 s.length), (12, .int .i64 k)], [], 0, []⟩
/-- The loop of CheckDigit. -/
def L_checkDigit (s : List UInt8) : LSpec := fun st Q => canonIs te 0 [0, 4, 11, 12] st (S_cd s 0) ∧ s.length ≤ 12 ∧ s.all isDig = true ∧
  Q (.exit 0) ⟨[(4, .int .i64 (cdSum s s.length))], [], 0, []⟩
def validIDF (s : List UInt8) : Bool := match digitsF s 8 13 with
  | true => decide ((cdF (s.take (s.length - 1))).1 = ((s.getD (s.length - 1) 0).toNat : Int) - 48)
  | false => false
def S_validID : Spec
  | [.str s], [] => some (.bool (validIDF s), [], True)
  | _, _ => none

theorem isDig_at {s : List UInt8} (h : s.all isDig = true) (k : Nat) (hk : k < s.length) : 48 ≤ (s.getD k 0).toNat ∧ (s.getD k 0).toNat ≤ 57 := by
  have := List.all_eq_true.1 h (s.getD k 0) (by simp [List.getD, hk])
  simpa [isDig] using this

theorem isDig_contains (b : UInt8) : ([48, 49, 50, 51, 52, 53, 54, 55, 56, 57] : List UInt8).contains b = isDig b := by
  have : ∀ n, n < 256 → ([48, 49, 50, 51, 52, 53, 54, 55, 56, 57] : List UInt8).contains (UInt8.ofNat n) = isDig (UInt8.ofNat n) := by decide +kernel
  have h := this b.toNat b.toNat_lt
  simpa using h

theorem dropWhile_nil {p : UInt8 → Bool} : ∀ {s : List UInt8}, s.dropWhile p = [] ↔ s.all p = true
  | [] => by simp
  | x :: s => by
    simp only [List.dropWhile_cons, List.all_cons]
    cases hx : p x <;> simp [dropWhile_nil]

theorem dropWhile_all {p : UInt8 → Bool} : ∀ {r : List UInt8}, (r.dropWhile p).all p = true → r.all p = true
  | [], h => h
  | x :: r, h => by
    rw [List.dropWhile_cons] at h
    cases hx : p x with
    | true =>
      rw [hx, if_pos rfl] at h
      rw [List.all_cons, hx, dropWhile_all h]; rfl
    | false => rw [hx, if_neg (by simp), List.all_cons, hx] at h; cases h

theorem all_rev {p : UInt8 → Bool} (s : List UInt8) : s.reverse.all p = s.all p := by simp

theorem trimF_nil (c s : List UInt8) : trimF c s = [] ↔ s.all (c.contains ·) = true := by
  unfold trimF dropR
  rw [dropWhile_nil, all_rev]
  constructor
  · intro h
    rw [← all_rev]
    exact dropWhile_all h
  · intro h
    rw [← all_rev] at h
    rw [dropWhile_nil.2 h]; rfl

theorem trimF_digits (s : List UInt8) : decide (trimF [48, 49, 50, 51, 52, 53, 54, 55, 56, 57] s = []) = s.all isDig := by
  have h := trimF_nil [48, 49, 50, 51, 52, 53, 54, 55, 56, 57] s
  simp only [isDig_contains] at h
  cases hb : s.all isDig with
  | true => exact decide_eq_true (h.2 hb)
  | false => exact decide_eq_false fun he => by rw [h.1 he] at hb; cases hb

end Go.Eng
/- Names of products: plain functions. -/
namespace Go.Eng

def nameAll : List UInt8 := [97, 98, 99, 100, 101, 102, 103, 104, 105, 106, 107, 108, 109, 110, 111, 112, 113, 114, 115, 116, 117, 118, 119, 120, 121, 122, 48, 49, 50, 51, 52, 53, 54, 55, 56, 57, 45, 46]
def nameFirst : List UInt8 := [97, 98, 99, 100, 101, 102, 103, 104, 105, 106, 107, 108, 109, 110, 111, 112, 113, 114, 115, 116, 117, 118, 119, 120, 121, 122, 48, 49, 50, 51, 52, 53, 54, 55, 56, 57]
def isLet (b : UInt8) : Bool := decide (97 ≤ b.toNat) && decide (b.toNat ≤ 122) || decide (48 ≤ b.toNat) && decide (b.toNat ≤ 57)
def isNB (b : UInt8) : Bool := isLet b || decide (b.toNat = 45) || decide (b.toNat = 46)
theorem nameAll_has (b : UInt8) : nameAll.contains b = isNB b := by
  have : ∀ n, n < 256 → nameAll.contains (UInt8.ofNat n) = isNB (UInt8.ofNat n) := by decide +kernel
  simpa using this b.toNat b.toNat_lt
theorem nameFirst_has (b : UInt8) : nameFirst.contains b = isLet b := by
  have : ∀ n, n < 256 → nameFirst.contains (UInt8.ofNat n) = isLet (UInt8.ofNat n) := by decide +kernel
  simpa using this b.toNat b.toNat_lt
theorem nameAll_ascii : ascii nameAll = true := by decide +kernel

theorem indexByte_iff (l : List UInt8) (c : UInt8) : 0 ≤ Lib.indexByte l c ↔ l.contains c = true := by
  induction l with
  | nil => simp [Lib.indexByte]
  | cons b l ih =>
    have hge := Lib.indexByte_ge l c
    simp only [Lib.indexByte, List.contains_cons, Bool.or_eq_true, beq_iff_eq]
    by_cases h : b = c
    · subst h; simp
    · have h' : ¬ c = b := fun e => h e.symm
      simp only [h, if_false, h', false_or, ← ih]
      split <;> omega

theorem nameRune_lo (b : UInt8) (h : b.toNat < 128) : decide (0 ≤ idxRune nameAll (b.toNat : Int)) = isNB b := by
  have e : decide ((b.toNat : Int) < 128) = true := decide_eq_true (by omega)
  simp only [idxRune, e, u8_round]
  rw [← nameAll_has]
  cases hc : nameAll.contains b with
  | true => exact decide_eq_true ((indexByte_iff _ _).2 hc)
  | false => exact decide_eq_false fun hh => by rw [(indexByte_iff _ _).1 hh] at hc; cases hc
theorem nameRune_hi (r : Nat) (h : 128 ≤ r) : decide (0 ≤ idxRune nameAll (r : Int)) = false := by
  have e : decide ((r : Int) < 128) = false := decide_eq_false (by omega)
  simp only [idxRune, e]
  rfl

def S_name1 : Spec
  | [.int .i32 r], [] => some (.bool (!decide (0 ≤ idxRune nameAll r)), [], 0 ≤ r ∧ r ≤ 1114111)
  | _, _ => none
def badAt (s : List UInt8) : Nat := s.findIdx fun b => !isNB b
def firstBad (s : List UInt8) : Int := match s.all isNB with
  | true => -1
  | false => badAt s
def S_ifState (s : List UInt8) (pos : Nat) : St := ⟨[(1, .func 145 []), (2, .bool true), (10, .ptr 0 0)], [(0, .siter s pos)], 1, []⟩
def L_indexFunc (s : List UInt8) : LSpec := fun st Q => canonIs te 0 [1, 2, 10] st (S_ifState s 0) ∧ condP (s.all isNB) (Q (.exit 0) ⟨[], [], 0, []⟩) (Q .ret ⟨[(6, .int .i64 (badAt s))], [], 0, []⟩)
def S_indexFunc : Spec
  | [.str s, .func 145 [], .bool true], [] => some (.int .i64 (firstBad s), [], True)
  | _, _ => none
def S_IndexFunc : Spec
  | [.str s, .func 145 []], [] => some (.int .i64 (firstBad s), [], True)
  | _, _ => none
def S_ContainsFunc : Spec
  | [.str s, .func 145 []], [] => some (.bool (!s.all isNB), [], True)
  | _, _ => none
def nameF (s : List UInt8) : Bool := decide (1 ≤ s.length) && decide (s.length ≤ 24) && isLet (s.getD 0 0) && s.all isNB
def S_name : Spec
  | [.str s], [] => some (.bool (nameF s), [], True)
  | _, _ => none

theorem badAt_spec {s : List UInt8} (h : s.all isNB = false) : badAt s < s.length ∧ isNB (s.getD (badAt s) 0) = false ∧ ∀ k, k < badAt s → isNB (s.getD k 0) = true := by
  have hlt : badAt s < s.length := by
    unfold badAt
    rw [List.findIdx_lt_length]
    have : ¬ ∀ x ∈ s, isNB x = true := fun hh => by rw [List.all_eq_true.2 hh] at h; cases h
    simp only [Classical.not_forall] at this
    obtain ⟨x, hx, hb⟩ := this
    exact ⟨x, hx, by simpa using hb⟩
  refine ⟨hlt, ?_, fun k hk => ?_⟩
  · have := List.findIdx_getElem (p := fun b => !isNB b) (xs := s) (w := hlt)
    have e : s.getD (badAt s) 0 = s[badAt s] := by simp [List.getD, hlt]
    rw [e]
    show isNB s[List.findIdx (fun b => !isNB b) s] = false
    simpa using this
  · have hk' : k < s.length := Nat.lt_trans hk hlt
    have := List.not_of_lt_findIdx (p := fun b => !isNB b) (xs := s) hk
    have e : s.getD k 0 = s[k] := by simp [List.getD, hk']
    rw [e]
    simpa using this

theorem trimF_first (b : UInt8) : decide (trimF [97, 98, 99, 100, 101, 102, 103, 104, 105, 106, 107, 108, 109, 110, 111, 112, 113, 114, 115, 116, 117, 118, 119, 120, 121, 122, 48, 49, 50, 51, 52, 53, 54, 55, 56, 57] [b] = []) = isLet b := by
  have h := trimF_nil nameFirst [b]
  simp only [List.all_cons, List.all_nil, Bool.and_true, nameFirst_has] at h
  cases hb : isLet b with
  | true => exact decide_eq_true (h.2 hb)
  | false => exact decide_eq_false fun he => by rw [h.1 he] at hb; cases hb

theorem firstBad_neg (s : List UInt8) : decide (0 ≤ firstBad s) = !s.all isNB := by
  unfold firstBad
  cases s.all isNB with
  | true => rfl
  | false => exact decide_eq_true (Int.natCast_nonneg _)

end Go.Eng
/- The reference of the products: plain functions. -/
namespace Go.Eng

def OKat (s : List UInt8) (k : Nat) : Prop := (97 ≤ (s.getD k 0).toNat ∧ (s.getD k 0).toNat ≤ 122) ∨ (48 ≤ (s.getD k 0).toNat ∧ (s.getD k 0).toNat ≤ 57) ∨ (k ≠ 0 ∧ ((s.getD k 0).toNat = 45 ∨ (s.getD k 0).toNat = 46))
def S_nrState (s : List UInt8) (k : Nat) : St := ⟨[(0, .str s), (6, .int .i64 s.length), (7, .int .i64 k)], [], 0, []⟩
def L_nameR (s : List UInt8) : LSpec := fun st Q => canonIs te 0 [0, 6, 7] st (S_nrState s 0) ∧ ((∀ k, k < s.length → OKat s k) → Q (.exit 0) ⟨[(0, .str s)], [], 0, []⟩) ∧ (∀ k, k < s.length → ¬ OKat s k → Q .ret ⟨[(2, .bool false)], [], 0, []⟩)

def S_nameR : Spec
  | [.str s], [] => some (.bool (nameF s), [], s.length ≤ 9223372036854775806)
  | _, _ => none

theorem nameF_iff (s : List UInt8) : nameF s = true ↔ (1 ≤ s.length ∧ s.length ≤ 24) ∧ ∀ k, k < s.length → OKat s k := by
  have hlet : ∀ b : UInt8, isLet b = true ↔ (97 ≤ b.toNat ∧ b.toNat ≤ 122) ∨ (48 ≤ b.toNat ∧ b.toNat ≤ 57) := by intro b; simp [isLet]
  have hnb : ∀ b : UInt8, isNB b = true ↔ ((97 ≤ b.toNat ∧ b.toNat ≤ 122) ∨ (48 ≤ b.toNat ∧ b.toNat ≤ 57)) ∨ b.toNat = 45 ∨ b.toNat = 46 := by
    intro b; rw [← hlet]; simp [isNB, or_assoc]
  unfold nameF
  simp only [Bool.and_eq_true, decide_eq_true_eq, hlet, List.all_eq_true, hnb]
  constructor
  · rintro ⟨⟨⟨h1, h2⟩, h3⟩, h4⟩
    refine ⟨⟨h1, h2⟩, fun k hk => ?_⟩
    have := h4 (s.getD k 0) (by simp [List.getD, hk])
    by_cases h0 : k = 0
    · subst h0; unfold OKat; omega
    · unfold OKat; omega
  · rintro ⟨⟨h1, h2⟩, h3⟩
    refine ⟨⟨⟨h1, h2⟩, ?_⟩, fun b hb => ?_⟩
    · have := h3 0 (by omega); unfold OKat at this; omega
    · obtain ⟨j, hj, rfl⟩ := List.getElem_of_mem hb
      have := h3 j hj
      have e : s.getD j 0 = s[j] := by simp [List.getD, hj]
      unfold OKat at this
      rw [e] at this
      omega

def S_cdrState (s : List UInt8) (k : Nat) : St := ⟨[(0, .str s), (4, .int .i64 (cdSum s k)), (16, .int .i64 s.length), (17, .int .i64 k)], [], 0, []⟩
def L_checkDigitR (s : List UInt8) : LSpec := fun st Q => canonIs te 0 [0, 4, 16, 17] st (S_cdrState s 0) ∧ s.length ≤ 12 ∧ condP (s.all isDig) (Q (.exit 0) ⟨[(4, .int .i64 (cdSum s s.length))], [], 0, []⟩) (Q .ret ⟨[(2, .int .i64 0), (3, .bool false)], [], 0, []⟩)

theorem cdSum_boundk {s : List UInt8} : ∀ k, k ≤ s.length → (∀ j, j < k → 48 ≤ (s.getD j 0).toNat ∧ (s.getD j 0).toNat ≤ 57) → 0 ≤ cdSum s k ∧ cdSum s k ≤ 27 * k
  | 0, _, _ => by simp [cdSum]
  | k + 1, hk, h => by
    have ih := cdSum_boundk k (by omega) fun j hj => h j (by omega)
    have hd := h k (by omega)
    simp only [cdSum]
    rcases Int.emod_two_eq (↑s.length - ↑k) with e | e <;> rw [e] <;> omega

theorem all_isDig {s : List UInt8} (h : ∀ j, j < s.length → 48 ≤ (s.getD j 0).toNat ∧ (s.getD j 0).toNat ≤ 57) : s.all isDig = true := by
  refine List.all_eq_true.2 fun b hb => ?_
  obtain ⟨j, hj, rfl⟩ := List.getElem_of_mem hb
  have := h j hj
  have e : s.getD j 0 = s[j] := by simp [List.getD, hj]
  rw [e] at this
  simp [isDig, this.1, this.2]

theorem cdF_bound (s : List UInt8) : 0 ≤ (cdF s).1 ∧ (cdF s).1 ≤ 9 := by
  unfold cdF
  split
  · show 0 ≤ (10 - cdSum s s.length % 10) % 10 ∧ (10 - cdSum s s.length % 10) % 10 ≤ 9
    omega
  · exact ⟨by decide, by decide⟩

end Go.Eng
/- Contents of packages: plain functions. -/
namespace Go.Eng

def qtyF (d c a : Int) : Int := bif decide (d < 1) then 80 else bif decide (4 < d) then 80 else bif decide (c < 1) then 81 else bif decide (100 < c) then 81 else bif decide (a < 1) then 82 else bif decide (Int.tdiv 1099511627776 c < a) then 82 else 0
def S_qty : Spec
  | [.agg [.int .i64 d, .int .i64 c, .int .i64 a]], [] => some (.int .i64 (qtyF d c a), [], True)
  | _, _ => none
theorem qty_bound {c : Int} (h1 : ¬ c < 1) (h2 : ¬ 100 < c) : c ≠ 0 ∧ inR .i64 (Int.tdiv 1099511627776 c) := by
  refine ⟨by omega, ?_⟩
  rw [Int.tdiv_eq_ediv_of_nonneg (by omega)]
  simp only [inR]
  have h3 : 0 ≤ 1099511627776 / c := Int.ediv_nonneg (by omega) (by omega)
  have h4 : 1099511627776 / c ≤ 1099511627776 := Int.ediv_le_self _ (by omega)
  omega

end Go.Eng
/- Levels of codes and the validation of products: plain functions. -/
namespace Go.Eng

def levelV (s : List UInt8) : Int := match parseOK s with
  | true => (words s).length
  | false => match decide (s = []) with
    | true => 0
    | false => -1
def S_level : Spec
  | [.str s], [] => some (.int .i64 (levelV s), [], s.length < 4294967281)
  | _, _ => none
def S_is : Spec
  | [.str s], [] => some (.bool (parseOK s), [], s.length < 4294967281)
  | _, _ => none

theorem levelV_lt (s : List UInt8) : decide (levelV s < 1) = !parseOK s := by
  unfold levelV
  cases h : parseOK s with
  | true =>
    have hn : 1 ≤ (words s).length := by rw [words_len]; omega
    have hlt : ¬ (((words s).length : Int) < 1) := by omega
    exact decide_eq_false hlt
  | false => cases decide (s = []) <;> rfl

def freshAt (nm : Nat → List UInt8) : Nat → Nat → Bool
  | 0, _ => true
  | j + 1, k => freshAt nm j k && !decide (nm k = nm j)
def atOK (nm vl : Nat → List UInt8) (k : Nat) : Bool := nameF (nm k) && nameF (vl k) && freshAt nm k k
def atsOK (nm vl : Nat → List UInt8) : Nat → Bool
  | 0 => true
  | k + 1 => atsOK nm vl k && atOK nm vl k
def valF (id code brand : List UInt8) (d c a : Int) (n : Nat) (nm vl : Nat → List UInt8) : Int :=
  bif !validIDF id then 90 else bif !parseOK code then 91 else bif !nameF brand then 92 else bif !decide (qtyF d c a = 0) then 93 else bif decide (12 < n) then 94 else bif atsOK nm vl n then 0 else 94

def nmOf (f : Nat → List AV) (i : Nat) : List UInt8 := strOf ((f i).getD 0 .any)
def vlOf (f : Nat → List AV) (i : Nat) : List UInt8 := strOf ((f i).getD 1 .any)
def atRow (nm vl : Nat → List UInt8) : Nat → List AV := fun i => [.str (nm i), .str (vl i)]
def R_val : RSpec
  | [.agg [.str id, .str code, .str brand, .int .i64 d, .int .i64 c, .int .i64 a, .nil]], [], R => code.length < 4294967281 ∧ brand.length < 4294967281 ∧ R (.int .i64 (valF id code brand d c a 0 (fun _ => []) (fun _ => []))) []
  | [.agg [.str id, .str code, .str brand, .int .i64 d, .int .i64 c, .int .i64 a, .own 0 n]], [.row t 2 m f fr], R => t = 122 ∧ fr = false ∧ n = m ∧ n ≤ 4294967281 ∧ code.length < 4294967281 ∧ brand.length < 4294967281 ∧ (∀ i, i < n → (nmOf f i).length < 4294967281 ∧ (vlOf f i).length < 4294967281) ∧ f = atRow (nmOf f) (vlOf f) ∧
      R (.int .i64 (valF id code brand d c a n (nmOf f) (vlOf f))) [(0, .row 122 2 n f false)]
  | _, _, _ => False
end Go.Eng
/- The row's arguments, read as data, told in abstract values. -/
namespace Go.Eng
open Go.Proofs Go.RowKit
variable {H : Type} {enc : TypeId × Value → H} {W : World}

noncomputable def fsOf (t : TypeId) : Array Field := match Tryz.prog.underlying t with
  | some (.struct fs) => fs
  | _ => #[]
theorem undP : Tryz.prog.underlying 96 = some (.struct (fsOf 96)) := by kernel_rfl
theorem undQ : Tryz.prog.underlying 93 = some (.struct (fsOf 93)) := by kernel_rfl
theorem undA : Tryz.prog.underlying 122 = some (.struct (fsOf 122)) := by kernel_rfl
theorem undAs : Tryz.prog.underlying 94 = some (.slice 122) := by kernel_rfl
theorem undIs : Tryz.prog.underlying 23 = some (.slice 3) := by kernel_rfl
theorem undI : Tryz.prog.underlying 3 = some (.int .i64) := by kernel_rfl
theorem undI2 : Tryz.prog.underlying 2 = some (.int .i64) := by kernel_rfl
theorem undS : Tryz.prog.underlying 9 = some .string := by kernel_rfl
theorem cP : Tryz.prog.cellsOf 96 = 7 := by kernel_rfl
theorem cQ : Tryz.prog.cellsOf 93 = 3 := by kernel_rfl
theorem cA : Tryz.prog.cellsOf 122 = 2 := by kernel_rfl
theorem cI : Tryz.prog.cellsOf 3 = 1 := by kernel_rfl
theorem cI2 : Tryz.prog.cellsOf 2 = 1 := by kernel_rfl
theorem cS : Tryz.prog.cellsOf 9 = 1 := by kernel_rfl
theorem cAs : Tryz.prog.cellsOf 94 = 1 := by kernel_rfl

/-- A field's cells, read. -/
theorem field {t : TypeId} {n : Nat} {cs : List Value} {xs : List (DataW H × List MemPlace)} {sp : Nat → Bool} {hd : Bool} (hl : xs.length = (fsOf t).size)
    (h : ∀ (i : Nat) (f : Field), (fsOf t)[i]? = some f → DataW.trod enc Tryz.prog W 0 sp hd n f.type ((cs.drop f.offset).take (Tryz.prog.cellsOf f.type)) = xs[i]?)
    (i : Nat) (ty : TypeId) (off : Nat) (hf : ((fsOf t)[i]?).map (fun f => (f.type, f.offset)) = some (ty, off)) : ∃ y, DataW.trod enc Tryz.prog W 0 sp hd n ty ((cs.drop off).take (Tryz.prog.cellsOf ty)) = some y := by
  obtain ⟨f, hf1, hf2⟩ := Option.map_eq_some_iff.1 hf
  simp only [Prod.mk.injEq] at hf2
  obtain ⟨rfl, rfl⟩ := hf2
  have hi : i < xs.length := by rw [hl]; exact (Array.getElem?_eq_some_iff.1 hf1).1
  exact ⟨xs[i], by rw [h i f hf1]; simp [hi]⟩

theorem addr_add (a : Addr) (i j : Nat) : (a.add i).add j = a.add (i + j) := by
  obtain ⟨b, o, e⟩ := a
  by_cases h1 : i = 0 <;> by_cases h2 : j = 0 <;> simp [Addr.add, h1, h2, Nat.add_assoc]
theorem add_block (a : Addr) (i : Nat) : (a.add i).block = a.block := by
  unfold Addr.add
  split <;> rfl
theorem list2 {l : List Value} (h : l.length = 2) : ∃ a b, l = [a, b] := by
  match l, h with
  | [a, b], _ => exact ⟨a, b, rfl⟩
theorem list3 {l : List Value} (h : l.length = 3) : ∃ a b c, l = [a, b, c] := by
  match l, h with
  | [a, b, c], _ => exact ⟨a, b, c, rfl⟩
theorem list7 {l : List Value} (h : l.length = 7) : ∃ a b c d e f g, l = [a, b, c, d, e, f, g] := by
  match l, h with
  | [a, b, c, d, e, f, g], _ => exact ⟨a, b, c, d, e, f, g, rfl⟩

theorem read_attr {fuel : Nat} {cs : List Value} {x : DataW H × List MemPlace} {sp : Nat → Bool} {hd : Bool} (h : DataW.trod enc Tryz.prog W 0 sp hd fuel 122 cs = some x) : ∃ s1 s2 : ByteArray, cs = [.string s1, .string s2] := by
  obtain ⟨xs, n, rfl, _, hc, hl, hf⟩ := DataW.trod_struct undA h
  rw [cA] at hc
  obtain ⟨a, b, rfl⟩ := list2 hc
  obtain ⟨y0, h0⟩ := field hl hf 0 9 0 (by kernel_rfl)
  obtain ⟨y1, h1⟩ := field hl hf 1 9 1 (by kernel_rfl)
  rw [cS] at h0 h1
  obtain ⟨s0, e0, _⟩ := DataW.trod_string undS h0
  obtain ⟨s1, e1, _⟩ := DataW.trod_string undS h1
  simp at e0 e1
  exact ⟨s0, s1, by rw [e0, e1]⟩

theorem read_ints {fuel : Nat} {cs : List Value} {x : DataW H × List MemPlace} {sp : Nat → Bool} {hd : Bool} (h : DataW.trod enc Tryz.prog W 0 sp hd fuel 23 cs = some x) :
    ∃ (A : Option Addr) (n c : Nat) (v : Nat → Int), cs = [.slice A n c] ∧ V W (fun _ => False) nob (.slice A n c) (.view 1 n (fun i => [.int .i64 (v i)])) := by
  rcases DataW.trod_slice undIs h with ⟨rfl, _⟩ | ⟨a, len, cap, elems, rest, n, _, rfl, _, hb, hl, hm, hlen, hel, _⟩
  · exact ⟨none, 0, 0, fun _ => 0, rfl, V_view _ (Nat.le_refl _) (Nat.zero_le _) (fun i hi => by omega) (.inl rfl)⟩
  · have hat : ∀ i, i < len → ∃ z, W.cell? (a.add i) = some (.int .i64 z) := by
      intro i hi
      have h1 := hel i hi
      rw [cI, Nat.mul_one, List.getElem?_eq_getElem (by omega), Option.bind_eq_some_iff] at h1
      obtain ⟨cs', hcs, hy⟩ := h1
      obtain ⟨z, rfl, _⟩ := DataW.trod_int undI hy
      obtain ⟨_, _, h2⟩ := World.cells?_some hcs
      have q0 := h2 0 (by omega)
      rw [addr_add, Nat.add_zero] at q0
      exact ⟨z, q0⟩
    refine ⟨some a, len, cap, fun i => match W.cell? (a.add i) with | some (.int .i64 z) => z | _ => 0, rfl, V_view _ hl hm (fun _ _ => rfl) ?_⟩
    by_cases h0 : len = 0
    · exact .inl h0
    · refine .inr ⟨a, rfl, ?_, fun i hi j hj => ?_⟩
      · have h1 := hel 0 (by omega)
        rw [List.getElem?_eq_getElem (show 0 < elems.length by omega), Option.bind_eq_some_iff] at h1
        obtain ⟨cs', hcs, _⟩ := h1
        rw [cI] at hcs
        have q := World.cells?_block hcs (by omega)
        rw [add_block] at q
        exact q
      · obtain rfl : j = 0 := by omega
        obtain ⟨z, hz⟩ := hat i hi
        rw [Nat.mul_one, Nat.add_zero]
        refine ⟨_, hz, rfl, fun u hu => ?_⟩
        dsimp only at hu
        rw [hz] at hu
        obtain rfl := Option.some.inj hu
        exact .int

theorem read_attrs {fuel : Nat} {cs : List Value} {x : DataW H × List MemPlace} {sp : Nat → Bool} {hd : Bool} (h : DataW.trod enc Tryz.prog W 0 sp hd fuel 94 cs = some x) :
    ∃ (A : Option Addr) (n c : Nat) (nm vl : Nat → List UInt8), cs = [.slice A n c] ∧ V W (fun _ => False) nob (.slice A n c) (.view 2 n (atRow nm vl)) := by
  rcases DataW.trod_slice undAs h with ⟨rfl, _⟩ | ⟨a, len, cap, elems, rest, n, _, rfl, _, hb, hl, hm, hlen, hel, _⟩
  · exact ⟨none, 0, 0, fun _ => [], fun _ => [], rfl, V_view _ (Nat.le_refl _) (Nat.zero_le _) (fun i hi => by omega) (.inl rfl)⟩
  · have hat : ∀ i, i < len → ∃ s1 s2 : ByteArray, W.cell? (a.add (i * 2 + 0)) = some (.string s1) ∧ W.cell? (a.add (i * 2 + 1)) = some (.string s2) := by
      intro i hi
      have h1 := hel i hi
      rw [cA, List.getElem?_eq_getElem (by omega), Option.bind_eq_some_iff] at h1
      obtain ⟨cs', hcs, hy⟩ := h1
      obtain ⟨s1, s2, rfl⟩ := read_attr hy
      obtain ⟨_, _, h2⟩ := World.cells?_some hcs
      have q0 := h2 0 (by omega)
      have q1 := h2 1 (by omega)
      rw [addr_add] at q0 q1
      exact ⟨s1, s2, q0, q1⟩
    let tx : Addr → List UInt8 := fun p => match W.cell? p with
      | some (.string s) => s.data.toList
      | _ => []
    refine ⟨some a, len, cap, fun i => tx (a.add (i * 2 + 0)), fun i => tx (a.add (i * 2 + 1)), rfl, V_view _ hl hm (fun _ _ => rfl) ?_⟩
    by_cases h0 : len = 0
    · exact .inl h0
    · refine .inr ⟨a, rfl, ?_, fun i hi j hj => ?_⟩
      · have h1 := hel 0 (by omega)
        rw [List.getElem?_eq_getElem (show 0 < elems.length by omega), Option.bind_eq_some_iff] at h1
        obtain ⟨cs', hcs, _⟩ := h1
        rw [cA] at hcs
        have q := World.cells?_block hcs (by omega)
        rw [add_block] at q
        exact q
      · obtain ⟨s1, s2, e1, e2⟩ := hat i hi
        have t1 : tx (a.add (i * 2 + 0)) = s1.data.toList := by
          show (match W.cell? (a.add (i * 2 + 0)) with | some (.string s) => s.data.toList | _ => []) = _
          rw [e1]
        have t2 : tx (a.add (i * 2 + 1)) = s2.data.toList := by
          show (match W.cell? (a.add (i * 2 + 1)) with | some (.string s) => s.data.toList | _ => []) = _
          rw [e2]
        match j with
        | 0 =>
          refine ⟨_, e1, rfl, fun u hu => ?_⟩
          have hu : some (AV.str (tx (a.add (i * 2 + 0)))) = some u := hu
          rw [t1] at hu
          obtain rfl := Option.some.inj hu
          exact .str rfl
        | 1 =>
          refine ⟨_, e2, rfl, fun u hu => ?_⟩
          have hu : some (AV.str (tx (a.add (i * 2 + 1)))) = some u := hu
          rw [t2] at hu
          obtain rfl := Option.some.inj hu
          exact .str rfl

theorem read_prod {cs : Array Value} {fuel : Nat} {x : DataW H × List MemPlace} {sp : Nat → Bool} {hd : Bool} (h : DataW.trod enc Tryz.prog W 0 sp hd fuel 96 cs.toList = some x) :
    ∃ (id code brand : List UInt8) (d c q : Int) (n : Nat) (nm vl : Nat → List UInt8), V W (fun _ => False) nob (.agg cs) (.agg [.str id, .str code, .str brand, .int .i64 d, .int .i64 c, .int .i64 q, .view 2 n (atRow nm vl)]) := by
  obtain ⟨xs, n, rfl, _, hc, hl, hf⟩ := DataW.trod_struct undP h
  rw [cP] at hc
  obtain ⟨v0, v1, v2, v3, v4, v5, v6, hcs⟩ := list7 hc
  rw [hcs] at hf
  obtain ⟨y0, h0⟩ := field hl hf 0 9 0 (by kernel_rfl)
  obtain ⟨y1, h1⟩ := field hl hf 1 9 1 (by kernel_rfl)
  obtain ⟨y2, h2⟩ := field hl hf 2 9 2 (by kernel_rfl)
  obtain ⟨y3, h3⟩ := field hl hf 3 93 3 (by kernel_rfl)
  obtain ⟨y4, h4⟩ := field hl hf 4 94 6 (by kernel_rfl)
  rw [cS] at h0 h1 h2
  rw [cQ] at h3
  rw [cAs] at h4
  obtain ⟨s0, e0, _⟩ := DataW.trod_string undS h0
  obtain ⟨s1, e1, _⟩ := DataW.trod_string undS h1
  obtain ⟨s2, e2, _⟩ := DataW.trod_string undS h2
  simp at e0 e1 e2
  obtain ⟨A, m, c, nm, vl, e6, hV⟩ := read_attrs h4
  simp at e6
  obtain ⟨xs', n', _, _, hc', hl', hf'⟩ := DataW.trod_struct undQ h3
  obtain ⟨z0, g0⟩ := field hl' hf' 0 3 0 (by kernel_rfl)
  obtain ⟨z1, g1⟩ := field hl' hf' 1 3 1 (by kernel_rfl)
  obtain ⟨z2, g2⟩ := field hl' hf' 2 2 2 (by kernel_rfl)
  rw [cI] at g0 g1
  rw [cI2] at g2
  obtain ⟨i0, k0, _⟩ := DataW.trod_int undI g0
  obtain ⟨i1, k1, _⟩ := DataW.trod_int undI g1
  obtain ⟨i2, k2, _⟩ := DataW.trod_int undI2 g2
  simp at k0 k1 k2
  subst e0 e1 e2 e6 k0 k1 k2
  refine ⟨s0.data.toList, s1.data.toList, s2.data.toList, i0, i1, i2, m, nm, vl, .agg ?_ ?_ ?_⟩
  · have : cs.size = 7 := by simpa using hc
    simpa using this
  · intro j v hv
    have hv : cs.toList[j]? = some v := by simpa using hv
    rw [hcs] at hv
    match j with
    | 0 => obtain rfl := Option.some.inj hv; rfl
    | 1 => obtain rfl := Option.some.inj hv; rfl
    | 2 => obtain rfl := Option.some.inj hv; rfl
    | 3 => obtain rfl := Option.some.inj hv; rfl
    | 4 => obtain rfl := Option.some.inj hv; rfl
    | 5 => obtain rfl := Option.some.inj hv; rfl
    | 6 => obtain rfl := Option.some.inj hv; rfl
    | j + 7 => simp at hv
  · intro j v u hv hu
    have hv : cs.toList[j]? = some v := by simpa using hv
    rw [hcs] at hv
    match j with
    | 0 => obtain rfl := Option.some.inj hv; obtain rfl := Option.some.inj hu; exact .str rfl
    | 1 => obtain rfl := Option.some.inj hv; obtain rfl := Option.some.inj hu; exact .str rfl
    | 2 => obtain rfl := Option.some.inj hv; obtain rfl := Option.some.inj hu; exact .str rfl
    | 3 => obtain rfl := Option.some.inj hv; obtain rfl := Option.some.inj hu; exact .int
    | 4 => obtain rfl := Option.some.inj hv; obtain rfl := Option.some.inj hu; exact .int
    | 5 => obtain rfl := Option.some.inj hv; obtain rfl := Option.some.inj hu; exact .int
    | 6 => obtain rfl := Option.some.inj hv; obtain rfl := Option.some.inj hu; exact hV
    | j + 7 => simp at hv
end Go.Eng
/- What the row's laid variables give the walk. -/
namespace Go.Eng
open Go.Proofs Go.RowKit
variable {H : Type} {enc : TypeId × Value → H} {W : World}

theorem trod_iface {P : Program} {w : World} {base fuel : Nat} {t : TypeId} {ms} {cs : List Value} {name : String} {d : DataW H} {p : List MemPlace} {sp : Nat → Bool} {hd : Bool} (ht : P.underlying t = some (.interface ms))
    (h : DataW.trod enc P w base sp hd fuel t cs = some (.iface name d, p)) : ∃ u v, cs = [.iface u v] := by
  cases fuel with
  | zero => simp [DataW.trod] at h
  | succ n =>
    unfold DataW.trod at h
    rw [ht] at h
    split at h <;> simp_all

theorem laid_iface {n : String} {g : Nat} {t : TypeId} {ms} {w : World} {name : String} {d : DataW Unit} {r : List (String × DataW Unit)} {ps : List MemPlace} (hg : Tryz.prog.globalNamed n = some g) (ht : (Tryz.prog.globals[g]?).map (·.type) = some t) (hu : Tryz.prog.underlying t = some (.interface ms))
    (h : DataW.LaidVars Tryz.prog w ((n, .iface name d) :: r) ps) : ∃ u v, w.cell? ⟨g, 0, none⟩ = some (.iface u v) := by
  obtain ⟨g', t', cs, fuel, p, q, hg', ht', hv, htr, _, _⟩ := h
  obtain rfl := Option.some.inj (hg.symm.trans hg')
  obtain rfl := Option.some.inj (ht.symm.trans ht')
  obtain ⟨u, v, hc⟩ := trod_iface hu htr
  have := World.var?_cell hg hv 0
  refine ⟨u, v, this.trans ?_⟩
  rw [← Array.getElem?_toList, hc]; rfl
theorem laid_tail {w : World} {x : String × DataW Unit} {r : List (String × DataW Unit)} {ps : List MemPlace} (h : DataW.LaidVars Tryz.prog w (x :: r) ps) : ∃ q, DataW.LaidVars Tryz.prog w r q := by
  obtain ⟨_, _, _, _, _, q, _, _, _, _, h, _⟩ := h
  exact ⟨q, h⟩

theorem maxLen_of {w : World} (h : w.ShapedOpen Tryz.prog) : ∃ m, w.cell? ⟨0, 0, none⟩ = some (.int .i64 m) :=
  cell_of_shapedOpen_int (t := 3) (zero := #[.int .i64 0]) h (of_decide_eq_true (by kernel_rfl)) (by kernel_rfl) rfl (by kernel_rfl) (by kernel_rfl) (by kernel_rfl)
noncomputable def msE : Array (String × TypeId) := match Tryz.prog.underlying 181 with
  | some (.interface ms) => ms
  | _ => #[]
theorem gErrS : Tryz.prog.globalNamed "strconv.ErrSyntax" = some 3 := by kernel_rfl
theorem gErrR : Tryz.prog.globalNamed "strconv.ErrRange" = some 4 := by kernel_rfl
theorem laidW_of {w : World} (hL : laidMetH Tryz.prog Go.Proofs.YtokpcnppihgdlaaGreatDoor.Rows.scannerValidRow.laid w) (hsh : w.ShapedOpen Tryz.prog) : LaidW w := by
  have h' : laidMet Tryz.prog Go.Proofs.YtokpcnppihgdlaaGreatDoor.Rows.scannerValidRow.laid w := hL
  obtain ⟨ps, h0, _⟩ := h'
  obtain ⟨_, h1⟩ := laid_tail h0
  obtain ⟨_, h2⟩ := laid_tail h1
  obtain ⟨_, h3⟩ := laid_tail h2
  obtain ⟨_, h4⟩ := laid_tail h3
  obtain ⟨_, h5⟩ := laid_tail h4
  exact ⟨maxLen_of hsh, laid_iface gErrS (t := 181) (ms := msE) (by kernel_rfl) (by kernel_rfl) h5, laid_iface gErrR (t := 181) (ms := msE) (by kernel_rfl) (by kernel_rfl) h4⟩
end Go.Eng
