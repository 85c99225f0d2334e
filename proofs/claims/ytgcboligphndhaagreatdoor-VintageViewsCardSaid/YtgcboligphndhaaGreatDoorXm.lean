/- Levels of codes and the validation of products: plain functions. -/
import Derived.Test.YtgcboligphndhaaGreatDoorXl
import Derived.Lib.AtoiAll
import Derived.Lib.ItoaNum
import Derived.Lib.LaidTab
import Derived.Lib.Split
import Derived.Lib.CountLaws
import Derived.Shelf.Strings.Builder1
import Derived.Shelf.Small.Utf8
import Derived.Shelf.Small.Bits
import Derived.Shelf.Small.Strs
import Derived.Shelf.Strconv.Atoi
import Derived.Shelf.Strconv.Itoa0
import Derived.Shelf.Strconv.Itoa1
import Derived.Shelf.LaysM
import Derived.Shelf.Strconv.Itoa2
import Derived.Shelf.Strconv.Itoa3
import Derived.Shelf.Strconv.Itoa4
import Derived.Shelf.Strconv.AtoiErrFast
import Derived.Shelf.Strconv.ParseIntEmpty
import Derived.Shelf.Strconv.AtoiFail
import Derived.Shelf.Strconv.Clone
import Derived.Shelf.Strconv.SyntaxError
import Derived.Shelf.LaysC
import Derived.Shelf.Strconv.ToError
import Derived.Shelf.Strconv.Lower
import Derived.Shelf.Strconv.ParseUint10
import Derived.Shelf.Strconv.ParseUint10Empty
import Derived.Shelf.Strconv.ParseUint10Any
import Derived.Shelf.Strconv.ParseInt10
import Derived.Shelf.Strconv.AtoiLong
import Derived.Shelf.Strconv.AtoiInnerAll
import Derived.Shelf.Strconv.RangeError
import Derived.Shelf.Strconv.ToErrorRange
import Derived.Shelf.Strconv.AtoiAll
import Derived.Shelf.Strings.Search1
import Derived.Shelf.Strings.Search2
import Derived.Shelf.Strings.Search3
import Derived.Shelf.Strings.Count
import Derived.Shelf.Strings.Shaped
import Derived.Shelf.Strings.Split
import Derived.Shelf.Strings.Runes
import Derived.Shelf.Strings.AsciiSet
import Derived.Shelf.Unicode.DecodeSlow
import Derived.Ground.SlsfProg
import Derived.Shelf.SlSortCmp.Insertion
import Derived.Shelf.SlSortCmp.SiftDown1
import Derived.Shelf.SlSortCmp.HeapSort1
import Derived.Shelf.SlSortCmp.Insertion1
import Derived.Shelf.SlSortCmp.Median1
import Derived.Shelf.SlSortCmp.Pivot1
import Derived.Shelf.SlSortCmp.ReverseRange1
import Derived.Shelf.SlSortCmp.PartialInsertion1
import Derived.Shelf.SlSortCmp.PartitionEqual1
import Derived.Shelf.SlSortCmp.Partition1
import Derived.Shelf.SlSortCmp.Pdq1
import Derived.Shelf.SlSortCmp.Whole1
import Derived.Shelf.SlSortCmp.NoneTotal
import Derived.Lib.IndexLaws
namespace Go.Eng
def vInt(f:Nat->List AV)(i:Nat):Int:=war ((f i).headD .any)
def wad(v:Nat->Int):Nat->List AV:=λi=>[.q (v i)]
def minV(v:Nat->Int):Nat->Int
 |0=>v 0
 |k+1=>min (minV v k) (v (k+1))
def maxV(v:Nat->Int):Nat->Int
 |0=>v 0
 |k+1=>max (maxV v k) (v (k+1))
def wm6:Spec
 |[.own 0 n],[.row t 1 m f fr]=>some (.q (minV (vInt f) (n - 1)),[(0,.row t 1 m f fr)],t=3/\fr=false/\1<=n/\n=m/\n<=4611686018427387904/\f=wad (vInt f))
 |_,_=>none
def wm7:Spec
 |[.own 0 n],[.row t 1 m f fr]=>some (.q (maxV (vInt f) (n - 1)),[(0,.row t 1 m f fr)],t=3/\fr=false/\1<=n/\n=m/\n<=4611686018427387904/\f=wad (vInt f))
 |_,_=>none
def wgv(n:Nat)(v g:Nat->Int)(k:Nat):St:=⟨[(0,.own 0 n),(3,.q (g k)),(4,.q ((k:Int)+1))],[(0,.row 3 1 n (λi=>[.q (v i)]) false)],1,[]⟩
def L_mm(n:Nat)(v g:Nat->Int):wao:=λst Q=>canonIs te 1 [0,3,4] st (wgv n v g 0)/\1<=n/\n<=4611686018427387904/\Q (.exit 0) ⟨[(3,.q (g (n - 1)))],[(0,.row 3 1 n (λi=>[.q (v i)]) false)],1,[]⟩
theorem wb5{r:Nat}{t:TypeId}{sz n:Nat}{f:Nat->List AV}{fr:Bool}:wae [(r,.row t sz n f fr)] [(r,.row t sz n f fr)]:=⟨rQ7,trivial⟩
def decF(n:Int):List UInt8:=Lib.decDigits n.toNat
def wht:Spec
 |[.int .i64 n],[]=>some (.str (decF n),[],0<=n/\n<100)
 |_,_=>none
def wjm(l:List UInt8):Int:=match Lib.atoiAll l with
 |.ok v=>v
 |.range=>Lib.atoiSat l
 |_=>0
def wn6:Spec
 |[.str s],[]=>some (.tuple [.q (wjm s),.any],[],s.length<=281474976710656)
 |_,_=>none
def words(s:List UInt8):List (List UInt8):=Lib.split s [46]
def wmh:Spec
 |[.str s,.str sep],[]=>some (.view 1 (words s).length (λi=>[.str ((words s).getD i [])]),[],s.length<4294967281/\sep=[46])
 |_,_=>none
def wcx(v:Nat->Int):Nat->List UInt8
 |0=>[]
 |k+1=>wcx v k++(46::decF (v (k+1)))
def wdz(a:Int):List UInt8:=match decide (a<10) with
 |true=>48::decF a
 |false=>decF a
def fmtZ(n:Nat)(v:Nat->Int):List UInt8:=wdz (v 0)++wcx v (n - 1)
def wbr(n:Nat)(v:Nat->Int):Bool:=decide (1<=n) && decide (n<=5) && decide (1<=minV v (n - 1)) && decide (maxV v (n - 1)<=99)
def wno:Spec
 |[.own 0 n],[.row t 1 m f fr]=>some (.tuple [.str (bif wbr n (vInt f) then fmtZ n (vInt f) else []),.q (bif wbr n (vInt f) then 0 else 64)],[(0,.row t 1 m f fr)],t=3/\fr=false/\n=m/\n<=4611686018427387904/\f=wad (vInt f))
 |_,_=>none
def wnq(n:Nat)(v:Nat->Int)(k:Nat):St:=⟨[(4,.str (wdz (v 0)++wcx v k)),(36,.sub 0 1 1 (n - 1)),(37,.q (n - 1:Nat)),(38,.q k)],[(0,.row 3 1 n (λi=>[.q (v i)]) false)],1,[]⟩
def wpk(n:Nat)(v:Nat->Int):wao:=λst Q=>canonIs te 1 [4,36,37,38] st (wnq n v 0)/\wbr n v=true/\Q (.exit 0) ⟨[(4,.str (fmtZ n v))],[(0,.row 3 1 n (λi=>[.q (v i)]) false)],1,[]⟩
theorem wu3 (v : Nat → Int) : ∀ k i, i ≤ k → minV v k ≤ v i
  | 0, i, h => by have : i = 0 := by omega
                  subst this; exact Int.le_refl _
  | k + 1, i, h => by
    simp only [minV]
    rcases Nat.lt_or_ge i (k + 1) with hi | hi
    · have := wu3 v k i (by omega); omega
    · have : i = k + 1 := by omega
      subst this; omega
theorem wvd (v : Nat → Int) : ∀ k i, i ≤ k → v i ≤ maxV v k
  | 0, i, h => by have : i = 0 := by omega
                  subst this; exact Int.le_refl _
  | k + 1, i, h => by
    simp only [maxV]
    rcases Nat.lt_or_ge i (k + 1) with hi | hi
    · have := wvd v k i (by omega); omega
    · have : i = k + 1 := by omega
      subst this; omega
theorem fmtOK_n{n:Nat}{v:Nat->Int}(h:wbr n v=true):1<=n/\n<=5:=by
 unfold wbr at h;simp only[bA7,decide_eq_true_eq] at h;omega
theorem wv1{n:Nat}{v:Nat->Int}(h:wbr n v=true)(i:Nat)(hi:i<n):1<=v i/\v i<=99:=by
 unfold wbr at h;simp only[bA7,decide_eq_true_eq] at h;have h1:=wu3 v (n - 1) i (by omega);have h2:=wvd v (n - 1) i (by omega);omega
theorem decF_lo{n:Int}(h0:0<=n)(h1:n<10):decF n=[UInt8.ofNat (48+n.toNat)]:=by
 unfold decF Lib.decDigits;rw[dif_pos (by omega)]
theorem decF_hi{n:Int}(h0:10<=n)(h1:n<100):decF n=[UInt8.ofNat (48+n.toNat / 10),UInt8.ofNat (48+n.toNat % 10)]:=by
 unfold decF;rw[Lib.decDigits,dif_neg (by omega),Lib.decDigits,dif_pos (by omega)];rfl
theorem wln{n:Int}(h:1<=n/\n<=99):(decF n).length<=2:=by
 rcases Int.lt_or_le n 10 with h1 | h1
 ·rw[decF_lo (by omega) h1];simp
 ·rw[decF_hi h1 (by omega)];simp
theorem w4g{n:Int}(h:1<=n/\n<=99):(wdz n).length<=3:=by
 have:=wln h;unfold wdz;split
 ·simp;omega
 ·omega
theorem wv0{n:Nat}{v:Nat->Int}(h:∀i,i<n->1<=v i/\v i<=99):∀k,k<n->(wcx v k).length<=3 * k
 |0,_=>by simp[wcx]
 |k+1,hk=>by
  have ih:=wv0 h k (by omega);have hd:=wln (h (k+1) hk);simp only[wcx,lA7,List.length_cons];omega
theorem wju{s:List UInt8}(h:Lib.index s [46]= -1):words s=[s]:=by
 unfold words Lib.split;rw[Lib.count_miss h];rfl
theorem wsv{s:List UInt8}{i:Nat}(h:Lib.index s [46]=i):words s=s.take i::words (s.drop (i+1)):=by
 have hc:=Lib.count_hit (sub:=[46]) (by simp) h;unfold words Lib.split;rw[hc,Nat.add_comm 1];have hne:(Lib.index s [46]== -1)=false:=by rw[h];simp
 show (if Lib.index s [46]== -1 then [s] else _)=_
 rw[hne,h];simp
theorem wvk(s:List UInt8):Lib.index s [46]= -1∨∃i:Nat,Lib.index s [46]=i:=by
 have:=Lib.index_ge s [46]
 rcases Int.lt_or_le (Lib.index s [46]) 0 with h | h
 ·exact .inl (by omega)
 ·exact .inr ⟨(Lib.index s [46]).toNat,by omega⟩
theorem wh7(s:List UInt8):(words s).length=Lib.count s [46]+1:=by
 have key:∀n,∀s:List UInt8,s.length<=n->(words s).length=Lib.count s [46]+1:=by
  intro n
  induction n with
  |zero=>
   intro s hs;have:s=[]:=List.length_eq_zero_iff.1 (by omega);subst this;rw[wju rfl,Lib.count_miss rfl];rfl
  |succ n ih=>
   intro s hs
   rcases wvk s with h | ⟨i,h⟩
   ·rw[wju h,Lib.count_miss h];rfl
   ·rw[wsv h,Lib.count_hit (sub:=[46]) (by simp) h];have hr:=Lib.index_room s [46] (by omega);simp only[List.length_cons,List.length_nil,Nat.zero_add] at hr ⊢;rw[ih _ (by simp;omega)];omega
 exact key _ s (lR7 _)
theorem wxw(s:List UInt8):∀w∈words s,w.length<=s.length:=by
 have key:∀n,∀s:List UInt8,s.length<=n->∀w∈words s,w.length<=s.length:=by
  intro n
  induction n with
  |zero=>
   intro s hs w hw;have:s=[]:=List.length_eq_zero_iff.1 (by omega);subst this;rw[wju rfl] at hw;simp at hw;subst hw;simp
  |succ n ih=>
   intro s hs w hw
   rcases wvk s with h | ⟨i,h⟩
   ·rw[wju h] at hw;simp at hw;subst hw;exact lR7 _
   ·rw[wsv h] at hw;have hr:=Lib.index_room s [46] (by omega);simp only[List.length_cons,List.length_nil,Nat.zero_add] at hr
    rcases List.mem_cons.1 hw with rfl | hw
    ·simp;omega
    ·have:=ih (s.drop (i+1)) (by simp;omega) w hw;simp at this;omega
 exact key _ s (lR7 _)
structure LaidW (w:World):Prop where
 maxLen:∃m,w.cell? ⟨0,0,none⟩=some (.int .i64 m)
 errS:∃t p,w.cell? ⟨4,0,none⟩=some (.iface t p)
 errR:∃t p,w.cell? ⟨5,0,none⟩=some (.iface t p)
 pow : Lib.TabIs Go.Proofs.Tryz.prog w "internal/strconv.uint64pow10" .u64 Lib.pow10Tab
def wcd(s:List UInt8)(i:Nat):Int:=wjm ((words s).getD i [])
def wd4(s:List UInt8):Bool:=wbr (words s).length (wcd s) && decide (fmtZ (words s).length (wcd s)=s)
def wmt(s:List UInt8)(k:Nat):St:=⟨[(0,.str s),(4,.own 0 k),(12,.view 1 (words s).length (λi=>[.str ((words s).getD i [])])),(13,.q ((words s).length:Nat)),(14,.q k)],[(0,.row 3 1 k (λi=>[.q (wcd s i)]) false)],1,[]⟩
def wo0(s:List UInt8):wao:=λst Q=>canonIs te 0 [0,4,12,13,14] (ownNil 4 3 1 st) (wmt s 0)/\s.length<4294967281/\Q (.exit 0) ⟨[(0,.str s),(4,.own 0 (words s).length)],[(0,.row 3 1 (words s).length (λi=>[.q (wcd s i)]) false)],1,[]⟩
def wod:wcc
 |[.str s],[],R=>s.length<4294967281/\wab (wd4 s) (R (.tuple [.own 0 (words s).length,.q 0]) [(0,.row 3 1 (words s).length (λi=>[.q (wcd s i)]) false)]) (R (.tuple [.nil,.q 60]) [])
 |_,_,_=>False
end Go.Eng
namespace Go.Proofs
open Go.Shelf
def Tryz.lays119_ren:Go.Shelf.Ren:=⟨λ | 119=>267 | n=>n,λ | 21=>21 | 4=>4 | n=>n,λ | n=>n⟩
theorem Tryz.lays119:Go.Proofs.Lays.n119 Tryz.prog Tryz.lays119_ren:={
 mixed:=by kernel_rfl
 f119:=Tryz.func267.trans (congrArg some (by kernel_rfl))
 t4:=Tryz.underlying4
 a4:=Tryz.isAgg4
 z4:=Tryz.sizeOf4
 v4:=Tryz.zeroValue4
 t21:=Tryz.underlying21
 a21:=Tryz.isAgg21
 z21:=Tryz.sizeOf21
 v21:=Tryz.zeroValue21 }
theorem Tryz.utf8_ValidRune(r:Int)(w:World):
  Calls Tryz.prog 267 #[.int .i32 r] w λe w'=>e= .returned (.bool (Lib.validRune r))/\w'=w:=Any.utf8_ValidRune Tryz.lays119 r w
def Tryz.lays106_ren:Go.Shelf.Ren:=⟨λ | 106=>94 | 213=>138 | 265=>177 | n=>n,λ | 9=>9 | 3=>3 | n=>n,λ | n=>n⟩
theorem Tryz.lays106:Go.Proofs.Lays.n106 Tryz.prog Tryz.lays106_ren:={
 mixed:=by kernel_rfl
 f106:=Tryz.func94.trans (congrArg some (by kernel_rfl))
 f213:=Tryz.func138.trans (congrArg some (by kernel_rfl))
 f265:=Tryz.func177.trans (congrArg some (by kernel_rfl))
 t3:=Tryz.underlying3
 a3:=Tryz.isAgg3
 z3:=Tryz.sizeOf3
 v3:=Tryz.zeroValue3
 t9:=Tryz.underlying9
 a9:=Tryz.isAgg9
 z9:=Tryz.sizeOf9
 v9:=Tryz.zeroValue9 }
open Go.RowKit in
theorem Tryz.strings_Compare(a b:ByteArray)(w:World):
  Calls Tryz.prog 94 #[.string a,.string b] w λe w'=>e= .returned (.int .i64 (Lib.compareBytes a.data.toList b.data.toList))/\w'=w:=Any.strings_Compare Tryz.lays106 a b w
def Tryz.lays137_ren:Go.Shelf.Ren:=⟨λ | 137=>266 | 217=>280 | 266=>287 | n=>n,λ | 9=>9 | 5=>5 | 3=>3 | n=>n,λ | n=>n⟩
theorem Tryz.lays137:Go.Proofs.Lays.n137 Tryz.prog Tryz.lays137_ren:={
 mixed:=by kernel_rfl
 f137:=Tryz.func266.trans (congrArg some (by kernel_rfl))
 f217:=Tryz.func280.trans (congrArg some (by kernel_rfl))
 f266:=Tryz.func287.trans (congrArg some (by kernel_rfl))
 t3:=Tryz.underlying3
 a3:=Tryz.isAgg3
 z3:=Tryz.sizeOf3
 v3:=Tryz.zeroValue3
 t5:=Tryz.underlying5
 a5:=Tryz.isAgg5
 z5:=Tryz.sizeOf5
 v5:=Tryz.zeroValue5
 t9:=Tryz.underlying9
 a9:=Tryz.isAgg9
 z9:=Tryz.sizeOf9
 v9:=Tryz.zeroValue9 }
open Go.RowKit in
theorem Tryz.strings_IndexByte(s:ByteArray)(c:Int)(w:World):
  Calls Tryz.prog 266 #[.string s,.int .u8 c] w λe w'=>e= .returned (.int .i64 (Lib.indexByte s.data.toList c.toNat.toUInt8))/\w'=w:=Any.strings_IndexByte Tryz.lays137 s c w
def Tryz.laysM171_ren:Go.Shelf.Ren:=⟨λ | 171=>133 | 243=>165 | 246=>166 | 283=>204 | 284=>205 | 285=>206 | 286=>207 | 129=>176 | 317=>232 | 318=>233 | 319=>234 | 320=>235 | 337=>254 | 338=>255 | n=>n,λ | 3=>3 | 9=>9 | 2=>2 | 4=>4 | 171=>222 | 0=>0 | 53=>118 | 37=>107 | 5=>5 | 173=>224 | 212=>248 | 51=>201 | 20=>20 | 213=>249 | 46=>168 | 232=>278 | 233=>279 | n=>n,λ | 17=>1 | 18=>2 | 19=>3 | n=>n⟩
theorem Tryz.laysM171:Go.Proofs.LaysM.n171 Tryz.prog Tryz.laysM171_ren:={
 mixed:=by kernel_rfl
 f129:=Tryz.func176.trans (congrArg some (by kernel_rfl))
 f171:=Tryz.func133.trans (congrArg some (by kernel_rfl))
 f243:=Tryz.func165.trans (congrArg some (by kernel_rfl))
 f246:=Tryz.func166.trans (congrArg some (by kernel_rfl))
 f283:=Tryz.func204.trans (congrArg some (by kernel_rfl))
 f284:=Tryz.func205.trans (congrArg some (by kernel_rfl))
 f285:=Tryz.func206.trans (congrArg some (by kernel_rfl))
 f286:=Tryz.func207.trans (congrArg some (by kernel_rfl))
 f317:=Tryz.func232.trans (congrArg some (by kernel_rfl))
 f318:=Tryz.func233.trans (congrArg some (by kernel_rfl))
 f319:=Tryz.func234.trans (congrArg some (by kernel_rfl))
 f320:=Tryz.func235.trans (congrArg some (by kernel_rfl))
 f337:=Tryz.func254.trans (congrArg some (by kernel_rfl))
 f338:=Tryz.func255.trans (congrArg some (by kernel_rfl))
 t0:=Tryz.underlying0
 a0:=Tryz.isAgg0
 z0:=Tryz.sizeOf0
 v0:=Tryz.zeroValue0
 t2:=Tryz.underlying2
 a2:=Tryz.isAgg2
 z2:=Tryz.sizeOf2
 v2:=Tryz.zeroValue2
 t3:=Tryz.underlying3
 a3:=Tryz.isAgg3
 z3:=Tryz.sizeOf3
 v3:=Tryz.zeroValue3
 t4:=Tryz.underlying4
 a4:=Tryz.isAgg4
 z4:=Tryz.sizeOf4
 v4:=Tryz.zeroValue4
 t5:=Tryz.underlying5
 a5:=Tryz.isAgg5
 z5:=Tryz.sizeOf5
 v5:=Tryz.zeroValue5
 t9:=Tryz.underlying9
 a9:=Tryz.isAgg9
 z9:=Tryz.sizeOf9
 v9:=Tryz.zeroValue9
 t20:=Tryz.underlying20
 a20:=Tryz.isAgg20
 z20:=Tryz.sizeOf20
 v20:=Tryz.zeroValue20
 t37:=Tryz.underlying107
 a37:=Tryz.isAgg107
 z37:=Tryz.sizeOf107
 v37:=Tryz.zeroValue107
 t46:=Tryz.underlying168
 a46:=Tryz.isAgg168
 z46:=Tryz.sizeOf168
 v46:=Tryz.zeroValue168
 t51:=Tryz.underlying201
 a51:=Tryz.isAgg201
 z51:=Tryz.sizeOf201
 v51:=Tryz.zeroValue201
 t53:=Tryz.underlying118
 a53:=Tryz.isAgg118
 z53:=Tryz.sizeOf118
 v53:=Tryz.zeroValue118
 t171:=Tryz.underlying222
 a171:=Tryz.isAgg222
 z171:=Tryz.sizeOf222
 v171:=Tryz.zeroValue222
 t173:=Tryz.underlying224
 a173:=Tryz.isAgg224
 z173:=Tryz.sizeOf224
 v173:=Tryz.zeroValue224
 t212:=Tryz.underlying248
 a212:=Tryz.isAgg248
 z212:=Tryz.sizeOf248
 v212:=Tryz.zeroValue248
 t213:=Tryz.underlying249
 a213:=Tryz.isAgg249
 z213:=Tryz.sizeOf249
 t232:=Tryz.underlying278
 a232:=Tryz.isAgg278
 z232:=Tryz.sizeOf278
 v232:=Tryz.zeroValue278
 t233:=Tryz.underlying279
 a233:=Tryz.isAgg279
 z233:=Tryz.sizeOf279
 v233:=Tryz.zeroValue279
 g17:=by kernel_rfl
 g18:=by kernel_rfl
 g19:=by kernel_rfl
 i0:=by kernel_rfl
 i2:=by kernel_rfl
 i3:=by kernel_rfl
 i4:=by kernel_rfl
 i5:=by kernel_rfl
 i9:=by kernel_rfl
 i20:=by kernel_rfl
 i37:=by kernel_rfl
 i46:=by kernel_rfl
 i51:=by kernel_rfl
 i53:=by kernel_rfl
 i171:=by kernel_rfl
 i173:=by kernel_rfl
 i212:=by kernel_rfl
 i232:=by kernel_rfl
 i233:=by kernel_rfl
 m17:=by kernel_rfl
 m18:=by kernel_rfl
 m19:=by kernel_rfl }
open Go.RowKit Go.Sort Go.Lib in
theorem Tryz.strconv_Itoa(n : Int)(h0 : -9223372036854775808 <= n)(h1 : n <= 9223372036854775807)(w : World)(htab : Lib.TabIs Tryz.prog w "internal/strconv.uint64pow10" .u64 Lib.pow10Tab) :
  Calls Tryz.prog 133 #[.int .i64 n] w λe w'=>e= .returned (.string ⟨(Lib.itoa n).toArray⟩)/\∃k os,w'=grow (w.drewN k) os:=Any.strconv_Itoa Tryz.laysM171 n h0 h1 w htab
def Tryz.lays171_ren:Go.Shelf.Ren:=⟨λ | 171=>133 | 243=>165 | 246=>166 | 283=>204 | 284=>205 | 285=>206 | 286=>207 | 129=>176 | 317=>232 | 318=>233 | 319=>234 | 320=>235 | 337=>254 | 338=>255 | n=>n,λ | 3=>3 | 9=>9 | 2=>2 | 4=>4 | 171=>222 | 0=>0 | 53=>118 | 37=>107 | 5=>5 | 173=>224 | 212=>248 | 51=>201 | 20=>20 | 213=>249 | 46=>168 | 232=>278 | 233=>279 | n=>n,λ | 17=>1 | 18=>2 | 19=>3 | n=>n⟩
theorem Tryz.lays171:Go.Proofs.Lays.n171 Tryz.prog Tryz.lays171_ren:={
 mixed:=by kernel_rfl
 f129:=Tryz.func176.trans (congrArg some (by kernel_rfl))
 f171:=Tryz.func133.trans (congrArg some (by kernel_rfl))
 f243:=Tryz.func165.trans (congrArg some (by kernel_rfl))
 f246:=Tryz.func166.trans (congrArg some (by kernel_rfl))
 f283:=Tryz.func204.trans (congrArg some (by kernel_rfl))
 f284:=Tryz.func205.trans (congrArg some (by kernel_rfl))
 f285:=Tryz.func206.trans (congrArg some (by kernel_rfl))
 f286:=Tryz.func207.trans (congrArg some (by kernel_rfl))
 f317:=Tryz.func232.trans (congrArg some (by kernel_rfl))
 f318:=Tryz.func233.trans (congrArg some (by kernel_rfl))
 f319:=Tryz.func234.trans (congrArg some (by kernel_rfl))
 f320:=Tryz.func235.trans (congrArg some (by kernel_rfl))
 f337:=Tryz.func254.trans (congrArg some (by kernel_rfl))
 f338:=Tryz.func255.trans (congrArg some (by kernel_rfl))
 t0:=Tryz.underlying0
 a0:=Tryz.isAgg0
 z0:=Tryz.sizeOf0
 v0:=Tryz.zeroValue0
 t2:=Tryz.underlying2
 a2:=Tryz.isAgg2
 z2:=Tryz.sizeOf2
 v2:=Tryz.zeroValue2
 t3:=Tryz.underlying3
 a3:=Tryz.isAgg3
 z3:=Tryz.sizeOf3
 v3:=Tryz.zeroValue3
 t4:=Tryz.underlying4
 a4:=Tryz.isAgg4
 z4:=Tryz.sizeOf4
 v4:=Tryz.zeroValue4
 t5:=Tryz.underlying5
 a5:=Tryz.isAgg5
 z5:=Tryz.sizeOf5
 v5:=Tryz.zeroValue5
 t9:=Tryz.underlying9
 a9:=Tryz.isAgg9
 z9:=Tryz.sizeOf9
 v9:=Tryz.zeroValue9
 t20:=Tryz.underlying20
 a20:=Tryz.isAgg20
 z20:=Tryz.sizeOf20
 v20:=Tryz.zeroValue20
 t37:=Tryz.underlying107
 a37:=Tryz.isAgg107
 z37:=Tryz.sizeOf107
 v37:=Tryz.zeroValue107
 t46:=Tryz.underlying168
 a46:=Tryz.isAgg168
 z46:=Tryz.sizeOf168
 v46:=Tryz.zeroValue168
 t51:=Tryz.underlying201
 a51:=Tryz.isAgg201
 z51:=Tryz.sizeOf201
 v51:=Tryz.zeroValue201
 t53:=Tryz.underlying118
 a53:=Tryz.isAgg118
 z53:=Tryz.sizeOf118
 v53:=Tryz.zeroValue118
 t171:=Tryz.underlying222
 a171:=Tryz.isAgg222
 z171:=Tryz.sizeOf222
 v171:=Tryz.zeroValue222
 t173:=Tryz.underlying224
 a173:=Tryz.isAgg224
 z173:=Tryz.sizeOf224
 v173:=Tryz.zeroValue224
 t212:=Tryz.underlying248
 a212:=Tryz.isAgg248
 z212:=Tryz.sizeOf248
 v212:=Tryz.zeroValue248
 t213:=Tryz.underlying249
 a213:=Tryz.isAgg249
 z213:=Tryz.sizeOf249
 t232:=Tryz.underlying278
 a232:=Tryz.isAgg278
 z232:=Tryz.sizeOf278
 v232:=Tryz.zeroValue278
 t233:=Tryz.underlying279
 a233:=Tryz.isAgg279
 z233:=Tryz.sizeOf279
 v233:=Tryz.zeroValue279
 g17:=by kernel_rfl
 g18:=by kernel_rfl
 g19:=by kernel_rfl }
open Go.RowKit Go.Sort Go.Lib in
theorem Tryz.strconv_Itoa_small(i:Nat)(hi:i<100)(w:World):
  Calls Tryz.prog 133 #[.int .i64 i] w λe w'=>e= .returned (.string ⟨(Lib.decDigits i).toArray⟩)/\w'=w:=Any.strconv_Itoa_small Tryz.lays171 i hi w
def Tryz.laysM173_ren:Go.Shelf.Ren:=⟨λ | 173=>134 | 246=>166 | 283=>204 | 284=>205 | 285=>206 | 286=>207 | 129=>176 | 317=>232 | 318=>233 | 319=>234 | 320=>235 | 337=>254 | 338=>255 | n=>n,λ | 2=>2 | 3=>3 | 9=>9 | 4=>4 | 171=>222 | 0=>0 | 53=>118 | 37=>107 | 5=>5 | 173=>224 | 212=>248 | 51=>201 | 20=>20 | 213=>249 | 46=>168 | 232=>278 | 233=>279 | n=>n,λ | 17=>1 | 18=>2 | 19=>3 | n=>n⟩
theorem Tryz.laysM173:Go.Proofs.LaysM.n173 Tryz.prog Tryz.laysM173_ren:={
 mixed:=by kernel_rfl
 f129:=Tryz.func176.trans (congrArg some (by kernel_rfl))
 f173:=Tryz.func134.trans (congrArg some (by kernel_rfl))
 f246:=Tryz.func166.trans (congrArg some (by kernel_rfl))
 f283:=Tryz.func204.trans (congrArg some (by kernel_rfl))
 f284:=Tryz.func205.trans (congrArg some (by kernel_rfl))
 f285:=Tryz.func206.trans (congrArg some (by kernel_rfl))
 f286:=Tryz.func207.trans (congrArg some (by kernel_rfl))
 f317:=Tryz.func232.trans (congrArg some (by kernel_rfl))
 f318:=Tryz.func233.trans (congrArg some (by kernel_rfl))
 f319:=Tryz.func234.trans (congrArg some (by kernel_rfl))
 f320:=Tryz.func235.trans (congrArg some (by kernel_rfl))
 f337:=Tryz.func254.trans (congrArg some (by kernel_rfl))
 f338:=Tryz.func255.trans (congrArg some (by kernel_rfl))
 t0:=Tryz.underlying0
 a0:=Tryz.isAgg0
 z0:=Tryz.sizeOf0
 v0:=Tryz.zeroValue0
 t2:=Tryz.underlying2
 a2:=Tryz.isAgg2
 z2:=Tryz.sizeOf2
 v2:=Tryz.zeroValue2
 t3:=Tryz.underlying3
 a3:=Tryz.isAgg3
 z3:=Tryz.sizeOf3
 v3:=Tryz.zeroValue3
 t4:=Tryz.underlying4
 a4:=Tryz.isAgg4
 z4:=Tryz.sizeOf4
 v4:=Tryz.zeroValue4
 t5:=Tryz.underlying5
 a5:=Tryz.isAgg5
 z5:=Tryz.sizeOf5
 v5:=Tryz.zeroValue5
 t9:=Tryz.underlying9
 a9:=Tryz.isAgg9
 z9:=Tryz.sizeOf9
 v9:=Tryz.zeroValue9
 t20:=Tryz.underlying20
 a20:=Tryz.isAgg20
 z20:=Tryz.sizeOf20
 v20:=Tryz.zeroValue20
 t37:=Tryz.underlying107
 a37:=Tryz.isAgg107
 z37:=Tryz.sizeOf107
 v37:=Tryz.zeroValue107
 t46:=Tryz.underlying168
 a46:=Tryz.isAgg168
 z46:=Tryz.sizeOf168
 v46:=Tryz.zeroValue168
 t51:=Tryz.underlying201
 a51:=Tryz.isAgg201
 z51:=Tryz.sizeOf201
 v51:=Tryz.zeroValue201
 t53:=Tryz.underlying118
 a53:=Tryz.isAgg118
 z53:=Tryz.sizeOf118
 v53:=Tryz.zeroValue118
 t171:=Tryz.underlying222
 a171:=Tryz.isAgg222
 z171:=Tryz.sizeOf222
 v171:=Tryz.zeroValue222
 t173:=Tryz.underlying224
 a173:=Tryz.isAgg224
 z173:=Tryz.sizeOf224
 v173:=Tryz.zeroValue224
 t212:=Tryz.underlying248
 a212:=Tryz.isAgg248
 z212:=Tryz.sizeOf248
 v212:=Tryz.zeroValue248
 t213:=Tryz.underlying249
 a213:=Tryz.isAgg249
 z213:=Tryz.sizeOf249
 t232:=Tryz.underlying278
 a232:=Tryz.isAgg278
 z232:=Tryz.sizeOf278
 v232:=Tryz.zeroValue278
 t233:=Tryz.underlying279
 a233:=Tryz.isAgg279
 z233:=Tryz.sizeOf279
 v233:=Tryz.zeroValue279
 g17:=by kernel_rfl
 g18:=by kernel_rfl
 g19:=by kernel_rfl
 i0:=by kernel_rfl
 i2:=by kernel_rfl
 i3:=by kernel_rfl
 i4:=by kernel_rfl
 i5:=by kernel_rfl
 i9:=by kernel_rfl
 i20:=by kernel_rfl
 i37:=by kernel_rfl
 i46:=by kernel_rfl
 i51:=by kernel_rfl
 i53:=by kernel_rfl
 i171:=by kernel_rfl
 i173:=by kernel_rfl
 i212:=by kernel_rfl
 i232:=by kernel_rfl
 i233:=by kernel_rfl
 m17:=by kernel_rfl
 m18:=by kernel_rfl
 m19:=by kernel_rfl }
open Go.RowKit Go.Sort Go.Lib in
theorem Tryz.strconv_FormatInt_10(n : Int)(h0 : -9223372036854775808 <= n)(h1 : n <= 9223372036854775807)(w : World)(htab : Lib.TabIs Tryz.prog w "internal/strconv.uint64pow10" .u64 Lib.pow10Tab) :
  Calls Tryz.prog 134 #[.int .i64 n,.int .i64 10] w λe w'=>e= .returned (.string ⟨(Lib.itoa n).toArray⟩)/\∃k os,w'=grow (w.drewN k) os:=Any.strconv_FormatInt_10 Tryz.laysM173 n h0 h1 w htab
def Tryz.laysC172_ren:Go.Shelf.Ren:=⟨λ | 172=>243 | 244=>258 | 245=>259 | 247=>273 | 279=>274 | 280=>275 | 281=>276 | 282=>277 | 287=>284 | 316=>285 | 171=>133 | 205=>286 | 321=>289 | 322=>290 | 243=>165 | 246=>166 | 283=>204 | 284=>205 | 285=>206 | 286=>207 | 129=>176 | 317=>232 | 318=>233 | 319=>234 | 320=>235 | 337=>254 | 338=>255 | n=>n,λ | 9=>9 | 3=>3 | 75=>160 | 76=>161 | 4=>4 | 5=>5 | 167=>281 | 37=>107 | 0=>0 | 85=>282 | 2=>2 | 168=>284 | 53=>118 | 175=>287 | 46=>168 | 210=>291 | 127=>164 | 145=>300 | 143=>298 | 21=>21 | 171=>222 | 173=>224 | 212=>248 | 51=>201 | 20=>20 | 213=>249 | 232=>278 | 233=>279 | 80=>104 | n=>n,λ | 15=>4 | 16=>5 | 17=>1 | 18=>2 | 19=>3 | n=>n⟩
theorem Tryz.laysC172:Go.Proofs.LaysC.n172 Tryz.prog Tryz.laysC172_ren:={
 mixed:=by kernel_rfl
 f129:=Tryz.func176.trans (congrArg some (by kernel_rfl))
 f171:=Tryz.func133.trans (congrArg some (by kernel_rfl))
 f172:=Tryz.func243.trans (congrArg some (by kernel_rfl))
 f205:=Tryz.func286.trans (congrArg some (by kernel_rfl))
 f243:=Tryz.func165.trans (congrArg some (by kernel_rfl))
 f244:=Tryz.func258.trans (congrArg some (by kernel_rfl))
 f245:=Tryz.func259.trans (congrArg some (by kernel_rfl))
 f246:=Tryz.func166.trans (congrArg some (by kernel_rfl))
 f247:=Tryz.func273.trans (congrArg some (by kernel_rfl))
 f279:=Tryz.func274.trans (congrArg some (by kernel_rfl))
 f280:=Tryz.func275.trans (congrArg some (by kernel_rfl))
 f281:=Tryz.func276.trans (congrArg some (by kernel_rfl))
 f282:=Tryz.func277.trans (congrArg some (by kernel_rfl))
 f283:=Tryz.func204.trans (congrArg some (by kernel_rfl))
 f284:=Tryz.func205.trans (congrArg some (by kernel_rfl))
 f285:=Tryz.func206.trans (congrArg some (by kernel_rfl))
 f286:=Tryz.func207.trans (congrArg some (by kernel_rfl))
 f287:=Tryz.func284.trans (congrArg some (by kernel_rfl))
 f316:=Tryz.func285.trans (congrArg some (by kernel_rfl))
 f317:=Tryz.func232.trans (congrArg some (by kernel_rfl))
 f318:=Tryz.func233.trans (congrArg some (by kernel_rfl))
 f319:=Tryz.func234.trans (congrArg some (by kernel_rfl))
 f320:=Tryz.func235.trans (congrArg some (by kernel_rfl))
 f321:=Tryz.func289.trans (congrArg some (by kernel_rfl))
 f322:=Tryz.func290.trans (congrArg some (by kernel_rfl))
 f337:=Tryz.func254.trans (congrArg some (by kernel_rfl))
 f338:=Tryz.func255.trans (congrArg some (by kernel_rfl))
 t0:=Tryz.underlying0
 a0:=Tryz.isAgg0
 z0:=Tryz.sizeOf0
 v0:=Tryz.zeroValue0
 t2:=Tryz.underlying2
 a2:=Tryz.isAgg2
 z2:=Tryz.sizeOf2
 v2:=Tryz.zeroValue2
 t3:=Tryz.underlying3
 a3:=Tryz.isAgg3
 z3:=Tryz.sizeOf3
 v3:=Tryz.zeroValue3
 t4:=Tryz.underlying4
 a4:=Tryz.isAgg4
 z4:=Tryz.sizeOf4
 v4:=Tryz.zeroValue4
 t5:=Tryz.underlying5
 a5:=Tryz.isAgg5
 z5:=Tryz.sizeOf5
 v5:=Tryz.zeroValue5
 t9:=Tryz.underlying9
 a9:=Tryz.isAgg9
 z9:=Tryz.sizeOf9
 v9:=Tryz.zeroValue9
 t20:=Tryz.underlying20
 a20:=Tryz.isAgg20
 z20:=Tryz.sizeOf20
 v20:=Tryz.zeroValue20
 t21:=Tryz.underlying21
 a21:=Tryz.isAgg21
 z21:=Tryz.sizeOf21
 v21:=Tryz.zeroValue21
 t37:=Tryz.underlying107
 a37:=Tryz.isAgg107
 z37:=Tryz.sizeOf107
 v37:=Tryz.zeroValue107
 t46:=Tryz.underlying168
 a46:=Tryz.isAgg168
 z46:=Tryz.sizeOf168
 v46:=Tryz.zeroValue168
 t51:=Tryz.underlying201
 a51:=Tryz.isAgg201
 z51:=Tryz.sizeOf201
 v51:=Tryz.zeroValue201
 t53:=Tryz.underlying118
 a53:=Tryz.isAgg118
 z53:=Tryz.sizeOf118
 v53:=Tryz.zeroValue118
 t75:=Tryz.underlying160
 a75:=Tryz.isAgg160
 z75:=Tryz.sizeOf160
 v75:=Tryz.zeroValue160
 t76:=Tryz.underlying161
 a76:=Tryz.isAgg161
 z76:=Tryz.sizeOf161
 v76:=Tryz.zeroValue161
 t85:=Tryz.underlying282
 a85:=Tryz.isAgg282
 z85:=Tryz.sizeOf282
 v85:=Tryz.zeroValue282
 t127:=Tryz.underlying164
 a127:=Tryz.isAgg164
 z127:=Tryz.sizeOf164
 v127:=Tryz.zeroValue164
 t143:=Tryz.underlying298
 a143:=Tryz.isAgg298
 z143:=Tryz.sizeOf298
 v143:=Tryz.zeroValue298
 t145:=Tryz.underlying300
 a145:=Tryz.isAgg300
 z145:=Tryz.sizeOf300
 v145:=Tryz.zeroValue300
 t167:=Tryz.underlying281
 a167:=Tryz.isAgg281
 z167:=Tryz.sizeOf281
 v167:=Tryz.zeroValue281
 t168:=Tryz.underlying284
 a168:=Tryz.isAgg284
 z168:=Tryz.sizeOf284
 v168:=Tryz.zeroValue284
 t171:=Tryz.underlying222
 a171:=Tryz.isAgg222
 z171:=Tryz.sizeOf222
 v171:=Tryz.zeroValue222
 t173:=Tryz.underlying224
 a173:=Tryz.isAgg224
 z173:=Tryz.sizeOf224
 v173:=Tryz.zeroValue224
 t175:=Tryz.underlying287
 a175:=Tryz.isAgg287
 z175:=Tryz.sizeOf287
 v175:=Tryz.zeroValue287
 t210:=Tryz.underlying291
 a210:=Tryz.isAgg291
 z210:=Tryz.sizeOf291
 v210:=Tryz.zeroValue291
 t212:=Tryz.underlying248
 a212:=Tryz.isAgg248
 z212:=Tryz.sizeOf248
 v212:=Tryz.zeroValue248
 t213:=Tryz.underlying249
 a213:=Tryz.isAgg249
 z213:=Tryz.sizeOf249
 t232:=Tryz.underlying278
 a232:=Tryz.isAgg278
 z232:=Tryz.sizeOf278
 v232:=Tryz.zeroValue278
 t233:=Tryz.underlying279
 a233:=Tryz.isAgg279
 z233:=Tryz.sizeOf279
 v233:=Tryz.zeroValue279
 g15:=by kernel_rfl
 g16:=by kernel_rfl
 g17:=by kernel_rfl
 g18:=by kernel_rfl
 g19:=by kernel_rfl
 t80:=Tryz.underlying104
 a80:=Tryz.isAgg104
 z80:=Tryz.sizeOf104
 v80:=Tryz.zeroValue104
 i0:=by kernel_rfl
 i2:=by kernel_rfl
 i3:=by kernel_rfl
 i4:=by kernel_rfl
 i5:=by kernel_rfl
 i9:=by kernel_rfl
 i20:=by kernel_rfl
 i21:=by kernel_rfl
 i37:=by kernel_rfl
 i46:=by kernel_rfl
 i51:=by kernel_rfl
 i53:=by kernel_rfl
 i75:=by kernel_rfl
 i76:=by kernel_rfl
 i80:=by kernel_rfl
 i85:=by kernel_rfl
 i127:=by kernel_rfl
 i143:=by kernel_rfl
 i145:=by kernel_rfl
 i167:=by kernel_rfl
 i168:=by kernel_rfl
 i171:=by kernel_rfl
 i173:=by kernel_rfl
 i175:=by kernel_rfl
 i210:=by kernel_rfl
 i212:=by kernel_rfl
 i232:=by kernel_rfl
 i233:=by kernel_rfl
 m15:=by kernel_rfl
 m16:=by kernel_rfl
 m17:=by kernel_rfl
 m18:=by kernel_rfl
 m19:=by kernel_rfl
 c0:=by kernel_rfl
 c2:=by kernel_rfl
 c3:=by kernel_rfl
 c4:=by kernel_rfl
 c5:=by kernel_rfl
 c9:=by kernel_rfl
 c20:=by kernel_rfl
 c21:=by kernel_rfl
 c37:=by kernel_rfl
 c46:=by kernel_rfl
 c51:=by kernel_rfl
 c53:=by kernel_rfl
 c75:=by kernel_rfl
 c76:=by kernel_rfl
 c80:=by kernel_rfl
 c85:=by kernel_rfl
 c127:=by kernel_rfl
 c143:=by kernel_rfl
 c145:=by kernel_rfl
 c167:=by kernel_rfl
 c168:=by kernel_rfl
 c171:=by kernel_rfl
 c173:=by kernel_rfl
 c175:=by kernel_rfl
 c210:=by kernel_rfl
 c212:=by kernel_rfl
 c213:=by kernel_rfl
 c232:=by kernel_rfl
 c233:=by kernel_rfl }
open Go.RowKit in
theorem Tryz.strconv_Atoi_ok(s:ByteArray)(hmax:s.size<=9223372036854775806)(v:Int)(h:Lib.atoiAll s.data.toList= .ok v)(w:World):
  Calls Tryz.prog 243 #[.string s] w λe w'=>e= .returned (.tuple #[.int .i64 v,.nilIface])/\(w'=w∨∃t,w'=Lib.bytesWorld w 5 t):=Any.strconv_Atoi_ok Tryz.laysC172 s hmax v h w
def Tryz.lays146_ren:Go.Shelf.Ren:=⟨λ | 146=>242 | 221=>257 | 268=>270 | 138=>271 | 143=>272 | 195=>281 | 197=>263 | 218=>282 | 219=>283 | 260=>278 | 217=>280 | 225=>269 | 224=>268 | 267=>288 | 266=>287 | 314=>291 | n=>n,λ | 9=>9 | 31=>92 | 3=>3 | 4=>4 | 0=>0 | 105=>274 | 21=>21 | 5=>5 | 46=>168 | 119=>293 | 139=>296 | 138=>295 | 146=>301 | 51=>201 | n=>n,λ | 1=>0 | 3=>6 | 4=>7 | n=>n⟩
theorem Tryz.lays146:Go.Proofs.Lays.n146 Tryz.prog Tryz.lays146_ren:={
 mixed:=by kernel_rfl
 f138:=Tryz.func271.trans (congrArg some (by kernel_rfl))
 f143:=Tryz.func272.trans (congrArg some (by kernel_rfl))
 f146:=Tryz.func242.trans (congrArg some (by kernel_rfl))
 f195:=Tryz.func281.trans (congrArg some (by kernel_rfl))
 f197:=Tryz.func263.trans (congrArg some (by kernel_rfl))
 f217:=Tryz.func280.trans (congrArg some (by kernel_rfl))
 f218:=Tryz.func282.trans (congrArg some (by kernel_rfl))
 f219:=Tryz.func283.trans (congrArg some (by kernel_rfl))
 f221:=Tryz.func257.trans (congrArg some (by kernel_rfl))
 f224:=Tryz.func268.trans (congrArg some (by kernel_rfl))
 f225:=Tryz.func269.trans (congrArg some (by kernel_rfl))
 f260:=Tryz.func278.trans (congrArg some (by kernel_rfl))
 f266:=Tryz.func287.trans (congrArg some (by kernel_rfl))
 f267:=Tryz.func288.trans (congrArg some (by kernel_rfl))
 f268:=Tryz.func270.trans (congrArg some (by kernel_rfl))
 f314:=Tryz.func291.trans (congrArg some (by kernel_rfl))
 t0:=Tryz.underlying0
 a0:=Tryz.isAgg0
 z0:=Tryz.sizeOf0
 v0:=Tryz.zeroValue0
 t3:=Tryz.underlying3
 a3:=Tryz.isAgg3
 z3:=Tryz.sizeOf3
 v3:=Tryz.zeroValue3
 t4:=Tryz.underlying4
 a4:=Tryz.isAgg4
 z4:=Tryz.sizeOf4
 v4:=Tryz.zeroValue4
 t5:=Tryz.underlying5
 a5:=Tryz.isAgg5
 z5:=Tryz.sizeOf5
 v5:=Tryz.zeroValue5
 t9:=Tryz.underlying9
 a9:=Tryz.isAgg9
 z9:=Tryz.sizeOf9
 v9:=Tryz.zeroValue9
 t21:=Tryz.underlying21
 a21:=Tryz.isAgg21
 z21:=Tryz.sizeOf21
 v21:=Tryz.zeroValue21
 t31:=Tryz.underlying92
 a31:=Tryz.isAgg92
 z31:=Tryz.sizeOf92
 v31:=Tryz.zeroValue92
 t46:=Tryz.underlying168
 a46:=Tryz.isAgg168
 z46:=Tryz.sizeOf168
 v46:=Tryz.zeroValue168
 t51:=Tryz.underlying201
 a51:=Tryz.isAgg201
 z51:=Tryz.sizeOf201
 v51:=Tryz.zeroValue201
 t105:=Tryz.underlying274
 a105:=Tryz.isAgg274
 z105:=Tryz.sizeOf274
 v105:=Tryz.zeroValue274
 t119:=Tryz.underlying293
 a119:=Tryz.isAgg293
 z119:=Tryz.sizeOf293
 t138:=Tryz.underlying295
 a138:=Tryz.isAgg295
 z138:=Tryz.sizeOf295
 v138:=Tryz.zeroValue295
 t139:=Tryz.underlying296
 a139:=Tryz.isAgg296
 z139:=Tryz.sizeOf296
 v139:=Tryz.zeroValue296
 t146:=Tryz.underlying301
 a146:=Tryz.isAgg301
 z146:=Tryz.sizeOf301
 v146:=Tryz.zeroValue301
 g1:=by kernel_rfl
 g3:=by kernel_rfl
 g4:=by kernel_rfl }
open Go.RowKit Go.Lib in
theorem Tryz.strings_Split(s sep:ByteArray)(m:Int)(w:World)(hs:s.size<4294967281)(hm:w.cell? ⟨0,0,none⟩=some (.int .i64 m))(h1:1<=sep.size):
  Calls Tryz.prog 242 #[.string s,.string sep] w λe w'=>
   e= .returned (.slice (some ⟨w.heap.size,0,none⟩) (Lib.countB s sep+1) (Lib.countB s sep+1))/\w'=w.alloc (.cells ((Lib.splitB sep 0 (Lib.countB s sep) s).map Value.string).toArray 9):=Any.strings_Split Tryz.lays146 (by kernel_rfl) s sep m w hs hm h1
open Go.RowKit Go.Lib in
def Tryz.lays227_ren:Go.Shelf.Ren:=⟨λ | 227=>247 | n=>n,λ | 9=>9 | 116=>262 | 4=>4 | 0=>0 | 3=>3 | 5=>5 | n=>n,λ | n=>n⟩
theorem Tryz.lays227:Go.Proofs.Lays.n227 Tryz.prog Tryz.lays227_ren:={
 mixed:=by kernel_rfl
 f227:=Tryz.func247.trans (congrArg some (by kernel_rfl))
 t0:=Tryz.underlying0
 a0:=Tryz.isAgg0
 z0:=Tryz.sizeOf0
 v0:=Tryz.zeroValue0
 t3:=Tryz.underlying3
 a3:=Tryz.isAgg3
 z3:=Tryz.sizeOf3
 v3:=Tryz.zeroValue3
 t4:=Tryz.underlying4
 a4:=Tryz.isAgg4
 z4:=Tryz.sizeOf4
 v4:=Tryz.zeroValue4
 t5:=Tryz.underlying5
 a5:=Tryz.isAgg5
 z5:=Tryz.sizeOf5
 v5:=Tryz.zeroValue5
 t9:=Tryz.underlying9
 a9:=Tryz.isAgg9
 z9:=Tryz.sizeOf9
 v9:=Tryz.zeroValue9
 t116:=Tryz.underlying262
 a116:=Tryz.isAgg262
 z116:=Tryz.sizeOf262 }
open Go.RowKit Go.Lib in
theorem Tryz.strings_makeASCIISet(hv116:∀w,(zeroValue 262).run Tryz.prog w= .ok (.agg (Array.replicate 256 (.bool false))) w)(chars:ByteArray)(w:World)(hs:chars.size<4294967281)(hascii:∀(j:Nat) b,chars.data.toList[j]?=some b->b.toNat<128):
  Calls Tryz.prog 247 #[.string chars] w λe w'=>e= .returned (.tuple #[.agg (Lib.setCells chars.data.toList),.bool true])/\w'=w.alloc (.cells (Lib.setCells chars.data.toList) 262):=Any.strings_makeASCIISet Tryz.lays227 hv116 (by kernel_rfl) chars w hs hascii
def Tryz.lays228_ren:Go.Shelf.Ren:=⟨λ | 228=>262 | n=>n,λ | 124=>266 | 5=>5 | 4=>4 | 0=>0 | 116=>262 | n=>n,λ | n=>n⟩
theorem Tryz.lays228:Go.Proofs.Lays.n228 Tryz.prog Tryz.lays228_ren:={
 mixed:=by kernel_rfl
 f228:=Tryz.func262.trans (congrArg some (by kernel_rfl))
 t0:=Tryz.underlying0
 a0:=Tryz.isAgg0
 z0:=Tryz.sizeOf0
 v0:=Tryz.zeroValue0
 t4:=Tryz.underlying4
 a4:=Tryz.isAgg4
 z4:=Tryz.sizeOf4
 v4:=Tryz.zeroValue4
 t5:=Tryz.underlying5
 a5:=Tryz.isAgg5
 z5:=Tryz.sizeOf5
 v5:=Tryz.zeroValue5
 t116:=Tryz.underlying262
 a116:=Tryz.isAgg262
 z116:=Tryz.sizeOf262
 t124:=Tryz.underlying266
 a124:=Tryz.isAgg266
 z124:=Tryz.sizeOf266
 v124:=Tryz.zeroValue266 }
open Go.RowKit Go.Lib in
theorem Tryz.asciiSet_contains(b:Nat)(x:UInt8)(v:Bool)(w:World)(hc:w.cell? ⟨b,x.toNat,none⟩=some (.bool v)):
  Calls Tryz.prog 262 #[.pointer (some ⟨b,0,none⟩),.int .u8 x.toNat] w λe w'=>e= .returned (.bool v)/\w'=w:=Any.asciiSet_contains Tryz.lays228 b x v w hc
end Go.Proofs
namespace Go.Eng
def ascii(s:List UInt8):Bool:=s.all λb=>decide (b.toNat<128)
theorem wxf{s:List UInt8}(h:ascii s=true){k:Nat}(hk:k<s.length):(s.getD k 0).toNat<128:=by
 have:=List.all_eq_true.1 h (s.getD k 0) (by simp[List.getD,hk]);exact of_decide_eq_true this
theorem w51{s:List UInt8}(h:ascii s=true)(n:Nat):ascii (s.drop n)=true:=List.all_eq_true.2 λb hb=>List.all_eq_true.1 h b (List.mem_of_mem_drop hb)
theorem wqf{s:List UInt8}{k:Nat}(hk:k<s.length)(h:(s.getD k 0).toNat<128):wbx s k=((s.getD k 0).toNat,1):=by
 have e:(ByteArray.get! ⟨s.toArray⟩ (k+0))=s.getD k 0:=by simp[ByteArray.get!,hk]
 unfold wbx Utf8.decode;simp only[e,h,if_true]
theorem wtu{s:List UInt8}{k:Nat}(hk:k<s.length)(h:128<=(s.getD k 0).toNat):128<=(wbx s k).1/\(wbx s k).1<=1114111/\1<=(wbx s k).2:=by
 have e:(ByteArray.get! ⟨s.toArray⟩ (k+0))=s.getD k 0:=by simp[ByteArray.get!,hk]
 have hb:(s.getD k 0).toNat<256:=(s.getD k 0).toNat_lt;unfold wbx Utf8.decode;simp only[e,show ¬ (s.getD k 0).toNat<128 by omega,if_false,Utf8.runeError]
 repeat' split
 all_goals simp only[Utf8.valid,bA7,decide_eq_true_eq,Bool.or_eq_true,beq_iff_eq] at *
 all_goals omega
theorem wyz{s:List UInt8}{k:Nat}(hk:k<s.length):(wbx s k).1<=1114111:=by
 by_cases h:(s.getD k 0).toNat<128
 ·rw[wqf hk h];show (s.getD k 0).toNat<=1114111;omega
 ·exact(wtu hk (by omega)).2.1
theorem w4r{r:Int}(h:128<=r)(hv:Lib.validRune r=true):2<=(Utf8.encode r).data.toList.length/\(Utf8.encode r).data.toList.length<=4/\128<=((Utf8.encode r).data.toList.getD ((Utf8.encode r).data.toList.length - 1) 0).toNat:=by
 have hv':Utf8.valid r=true:=by
  simp only[Lib.validRune,decide_eq_true_eq] at hv;simp[Utf8.valid];omega
 simp only[Lib.validRune,decide_eq_true_eq] at hv;unfold Utf8.encode;simp only[hv',if_true];generalize hc:r.toNat=c;have h1:128<=c:=by omega
 have h2:c<=1114111:=by omega
 simp only[show ¬ c<128 by omega,if_false]
 repeat' split
 all_goals simp
 all_goals omega
theorem ws3(b:UInt8):(b.toNat:Int).toNat.toUInt8=b:=by simp
theorem w34{s:List UInt8}(h:ascii s=true){c:UInt8}(hc:128<=c.toNat):Lib.indexByte s c= -1:=by
 induction s with
 |nil=>rfl
 |cons b l ih=>
  simp only[ascii,List.all_cons,bA7,decide_eq_true_eq] at h;have hne:(b==c)=false:=by
   cases hb:b==c with
   |false=>rfl
   |true=>have:=eq_of_beq hb;subst this;omega
  simp only[Lib.indexByte,hne,ih h.2];rfl
def wcr(s:List UInt8)(r:Int):Int:=match decide (r<128) with
 |true=>Lib.indexByte s r.toNat.toUInt8
 |false=> -1
def whu:Spec
 |[.str s,.int .u8 c],[]=>some (.q (Lib.indexByte s c.toNat.toUInt8),[],True)
 |_,_=>none
def wl9:Spec
 |[.int .i32 r],[]=>some (.bool (Lib.validRune r),[],True)
 |_,_=>none
def wnf:Spec
 |[.str s,.int .i32 r],[]=>some (.q (wcr s r),[],ascii s=true/\s.length<=1000000/\0<=r/\r<=1114111)
 |_,_=>none
def wnx:Spec
 |[.str s,.int .i32 r],[]=>some (.bool (decide (0<=wcr s r)),[],ascii s=true/\s.length<=1000000/\0<=r/\r<=1114111)
 |_,_=>none
def wne(s:List UInt8)(pos:Nat):St:=⟨[(0,.str s),(175,.ptr 0 0)],[(0,.siter s pos)],1,[]⟩
def wpg(s:List UInt8):wao:=λst Q=>canonIs te 0 [0,175] st (wne s 0)/\ascii s=true/\Q (.exit 9) ⟨[],[],0,[]⟩
def wnd(s e:List UInt8):St:=⟨[(0,.str s),(7,.str e),(8,.q ((e.length:Int) - 1)),(9,.q ((e.length:Int) - 1))],[],0,[]⟩
def wpf(s e:List UInt8):wao:=λst Q=>canonIs te 0 [0,7,8,9] st (wnd s e)/\ascii s=true/\s.length<=1000000/\2<=e.length/\e.length<=4/\128<=(e.getD (e.length - 1) 0).toNat/\
 Q (.exit 1) ⟨[],[],0,[]⟩/\Q .ret ⟨[(4,.q (-1))],[],0,[]⟩
def wbk(c:UInt8):Bool:=decide (48<=c.toNat) && decide (c.toNat<=57)
def wbp(s:List UInt8)(a b:Int):Bool:=(decide ((s.length:Int)=a) || decide ((s.length:Int)=b)) && s.all wbk
def whv:Spec
 |[.str s,.int .i64 a,.int .i64 b],[]=>some (.bool (wbp s a b),[],a<=100/\b<=100)
 |_,_=>none
def wa8(s:List UInt8):Nat->Int
 |0=>0
 |i+1=>wa8 s i+(1+2 * (((s.length:Int) - i) % 2)) * ((s.getD i 0).toNat - 48)
def cdF(s:List UInt8):Int×Bool:=match wbp s 7 12 with
 |true=>((10 - wa8 s s.length % 10) % 10,true)
 |false=>(0,false)
def wep:Spec
 |[.str s],[]=>some (.tuple [.q (cdF s).1,.bool (cdF s).2],[],True)
 |_,_=>none
def S_cd(s:List UInt8)(k:Nat):St:=⟨[(0,.str s),(4,.q (wa8 s k)),(11,.q s.length),(12,.q k)],[],0,[]⟩
def wps(s:List UInt8):wao:=λst Q=>canonIs te 0 [0,4,11,12] st (S_cd s 0)/\s.length<=12/\s.all wbk=true/\
 Q (.exit 0) ⟨[(4,.q (wa8 s s.length))],[],0,[]⟩
def wba(s:List UInt8):Bool:=match wbp s 8 13 with
 |true=>decide ((cdF (s.take (s.length - 1))).1=((s.getD (s.length - 1) 0).toNat:Int) - 48)
 |false=>false
def wct:Spec
 |[.str s],[]=>some (.bool (wba s),[],True)
 |_,_=>none
theorem wk1{s:List UInt8}(h:s.all wbk=true)(k:Nat)(hk:k<s.length):48<=(s.getD k 0).toNat/\(s.getD k 0).toNat<=57:=by
 have:=List.all_eq_true.1 h (s.getD k 0) (by simp[List.getD,hk]);simpa[wbk] using this
theorem w3v(b:UInt8):([48,49,50,51,52,53,54,55,56,57]:List UInt8).contains b=wbk b:=by
 have:∀n,n<256->([48,49,50,51,52,53,54,55,56,57]:List UInt8).contains (UInt8.ofNat n)=wbk (UInt8.ofNat n):=by decide+kernel
 have h:=this b.toNat b.toNat_lt;simpa using h
theorem wrz{p:UInt8->Bool}:∀ {s:List UInt8},s.dropWhile p=[]↔s.all p=true
 |[]=>by simp
 |x::s=>by
  simp only[List.dropWhile_cons,List.all_cons]
  cases hx:p x<;>simp[wrz]
theorem wwn{p:UInt8->Bool}:∀ {r:List UInt8},(r.dropWhile p).all p=true->r.all p=true
 |[],h=>h
 |x::r,h=>by
  rw[List.dropWhile_cons] at h
  cases hx:p x with
  |true=>
   rw[hx,if_pos rfl] at h;rw[List.all_cons,hx,wwn h];rfl
  |false=>rw[hx,if_neg (by simp),List.all_cons,hx] at h;cases h
theorem wsg{p:UInt8->Bool}(s:List UInt8):s.reverse.all p=s.all p:=by simp
theorem ws6(c s:List UInt8):wfd c s=[]↔s.all (c.contains ·)=true:=by
 unfold wfd wdk;rw[wrz,wsg]
 constructor
 ·intro h;rw[← wsg];exact wwn h
 ·intro h;rw[← wsg] at h;rw[wrz.2 h];rfl
theorem ws7(s:List UInt8):decide (wfd [48,49,50,51,52,53,54,55,56,57] s=[])=s.all wbk:=by
 have h:=ws6 [48,49,50,51,52,53,54,55,56,57] s;simp only[w3v] at h
 cases hb:s.all wbk with
 |true=>exact decide_eq_true (h.2 hb)
 |false=>exact decide_eq_false λhe=>by rw[h.1 he] at hb;cases hb
def wfn:List UInt8:=[97,98,99,100,101,102,103,104,105,106,107,108,109,110,111,112,113,114,115,116,117,118,119,120,121,122,48,49,50,51,52,53,54,55,56,57,45,46]
def wkn:List UInt8:=[97,98,99,100,101,102,103,104,105,106,107,108,109,110,111,112,113,114,115,116,117,118,119,120,121,122,48,49,50,51,52,53,54,55,56,57]
def we5(b:UInt8):Bool:=decide (97<=b.toNat) && decide (b.toNat<=122) || decide (48<=b.toNat) && decide (b.toNat<=57)
def isNB(b:UInt8):Bool:=we5 b || decide (b.toNat=45) || decide (b.toNat=46)
theorem w2y(b:UInt8):wfn.contains b=isNB b:=by
 have:∀n,n<256->wfn.contains (UInt8.ofNat n)=isNB (UInt8.ofNat n):=by decide+kernel
 simpa using this b.toNat b.toNat_lt
theorem w2x(b:UInt8):wkn.contains b=we5 b:=by
 have:∀n,n<256->wkn.contains (UInt8.ofNat n)=we5 (UInt8.ofNat n):=by decide+kernel
 simpa using this b.toNat b.toNat_lt
theorem wvm(l:List UInt8)(c:UInt8):0<=Lib.indexByte l c↔l.contains c=true:=by
 induction l with
 |nil=>simp[Lib.indexByte]
 |cons b l ih=>
  have hge:=Lib.indexByte_ge l c;simp only[Lib.indexByte,List.contains_cons,Bool.or_eq_true,beq_iff_eq]
  by_cases h:b=c
  ·subst h;simp
  ·have h':¬ c=b:=λe=>h e.symm;simp only[h,if_false,h',false_or, ← ih];split<;>omega
theorem w2u(b:UInt8)(h:b.toNat<128):decide (0<=wcr wfn (b.toNat:Int))=isNB b:=by
 have e:decide ((b.toNat:Int)<128)=true:=decide_eq_true (by omega);simp only[wcr,e,ws3];rw[← w2y]
 cases hc:wfn.contains b with
 |true=>exact decide_eq_true ((wvm _ _).2 hc)
 |false=>exact decide_eq_false λhh=>by rw[(wvm _ _).1 hh] at hc;cases hc
theorem w2v(r:Nat)(h:128<=r):decide (0<=wcr wfn (r:Int))=false:=by
 have e:decide ((r:Int)<128)=false:=decide_eq_false (by omega);simp only[wcr,e];rfl
def wm1:Spec
 |[.int .i32 r],[]=>some (.bool (!decide (0<=wcr wfn r)),[],0<=r/\r<=1114111)
 |_,_=>none
def wdn(s:List UInt8):Nat:=s.findIdx λb=> !isNB b
def wft(s:List UInt8):Int:=match s.all isNB with
 |true=> -1
 |false=>wdn s
def wnl(s:List UInt8)(pos:Nat):St:=⟨[(1,.func 230 []),(2,.bool true),(10,.ptr 0 0)],[(0,.siter s pos)],1,[]⟩
def wph(s:List UInt8):wao:=λst Q=>canonIs te 0 [1,2,10] st (wnl s 0)/\wab (s.all isNB) (Q (.exit 0) ⟨[],[],0,[]⟩) (Q .ret ⟨[(6,.q (wdn s))],[],0,[]⟩)
def wng:Spec
 |[.str s,.func 230 [],.bool true],[]=>some (.q (wft s),[],True)
 |_,_=>none
def wn7:Spec
 |[.str s,.func 230 []],[]=>some (.q (wft s),[],True)
 |_,_=>none
def wn8:Spec
 |[.str s,.func 230 []],[]=>some (.bool (!s.all isNB),[],True)
 |_,_=>none
def wa3(s:List UInt8):Bool:=decide (1<=s.length) && decide (s.length<=24) && we5 (s.getD 0 0) && s.all isNB
def whr:Spec
 |[.str s],[]=>some (.bool (wa3 s),[],True)
 |_,_=>none
theorem w5y{s:List UInt8}(h:s.all isNB=false):wdn s<s.length/\isNB (s.getD (wdn s) 0)=false/\∀k,k<wdn s->isNB (s.getD k 0)=true:=by
 have hlt:wdn s<s.length:=by
  unfold wdn;rw[List.findIdx_lt_length];have:¬ ∀x∈s,isNB x=true:=λhh=>by rw[List.all_eq_true.2 hh] at h;cases h
  simp only[Classical.not_forall] at this;obtain⟨x,hx,hb⟩:=this;exact⟨x,hx,by simpa using hb⟩
 refine⟨hlt,?_,λk hk=>?_⟩
 ·have:=List.findIdx_getElem (p:=λb=> !isNB b) (xs:=s) (w:=hlt);have e:s.getD (wdn s) 0=s[wdn s]:=by simp[List.getD,hlt]
  rw[e];show isNB s[List.findIdx (λb=> !isNB b) s]=false;simpa using this
 ·have hk':k<s.length:=Nat.lt_trans hk hlt;have:=List.not_of_lt_findIdx (p:=λb=> !isNB b) (xs:=s) hk;have e:s.getD k 0=s[k]:=by simp[List.getD,hk']
  rw[e];simpa using this
theorem wyc(b:UInt8):decide (wfd [97,98,99,100,101,102,103,104,105,106,107,108,109,110,111,112,113,114,115,116,117,118,119,120,121,122,48,49,50,51,52,53,54,55,56,57] [b]=[])=we5 b:=by
 have h:=ws6 wkn [b];simp only[List.all_cons,List.all_nil,Bool.and_true,w2x] at h
 cases hb:we5 b with
 |true=>exact decide_eq_true (h.2 hb)
 |false=>exact decide_eq_false λhe=>by rw[h.1 he] at hb;cases hb
theorem w4i(s:List UInt8):decide (0<=wft s)= !s.all isNB:=by
 unfold wft
 cases s.all isNB with
 |true=>rfl
 |false=>exact decide_eq_true (Int.natCast_nonneg _)
def OKat(s:List UInt8)(k:Nat):Prop:=(97<=(s.getD k 0).toNat/\(s.getD k 0).toNat<=122)∨(48<=(s.getD k 0).toNat/\(s.getD k 0).toNat<=57)∨(k≠0/\((s.getD k 0).toNat=45∨(s.getD k 0).toNat=46))
def wmy(s:List UInt8)(k:Nat):St:=⟨[(0,.str s),(6,.q s.length),(7,.q k)],[],0,[]⟩
def wo2(s:List UInt8):wao:=λst Q=>canonIs te 0 [0,6,7] st (wmy s 0)/\((∀k,k<s.length->OKat s k)->Q (.exit 0) ⟨[(0,.str s)],[],0,[]⟩)/\(∀k,k<s.length->¬ OKat s k->Q .ret ⟨[(2,.bool false)],[],0,[]⟩)
def wen:Spec
 |[.str s],[]=>some (.bool (wa3 s),[],s.length<=9223372036854775806)
 |_,_=>none
theorem wko(s:List UInt8):wa3 s=true↔(1<=s.length/\s.length<=24)/\∀k,k<s.length->OKat s k:=by
 have hlet:∀b:UInt8,we5 b=true↔(97<=b.toNat/\b.toNat<=122)∨(48<=b.toNat/\b.toNat<=57):=by intro b;simp[we5]
 have hnb:∀b:UInt8,isNB b=true↔((97<=b.toNat/\b.toNat<=122)∨(48<=b.toNat/\b.toNat<=57))∨b.toNat=45∨b.toNat=46:=by
  intro b;rw[← hlet];simp[isNB,or_assoc]
 unfold wa3;simp only[bA7,decide_eq_true_eq,hlet,List.all_eq_true,hnb]
 constructor
 ·rintro⟨⟨⟨h1,h2⟩,h3⟩,h4⟩;refine⟨⟨h1,h2⟩,λk hk=>?_⟩;have:=h4 (s.getD k 0) (by simp[List.getD,hk])
  by_cases h0:k=0
  ·subst h0;unfold OKat;omega
  ·unfold OKat;omega
 ·rintro⟨⟨h1,h2⟩,h3⟩;refine⟨⟨⟨h1,h2⟩,?_⟩,λb hb=>?_⟩
  ·have:=h3 0 (by omega);unfold OKat at this;omega
  ·obtain⟨j,hj,rfl⟩:=List.getElem_of_mem hb;have:=h3 j hj;have e:s.getD j 0=s[j]:=by simp[List.getD,hj]
   unfold OKat at this;rw[e] at this;omega
def wn1(s:List UInt8)(k:Nat):St:=⟨[(0,.str s),(4,.q (wa8 s k)),(16,.q s.length),(17,.q k)],[],0,[]⟩
def wpr(s:List UInt8):wao:=λst Q=>canonIs te 0 [0,4,16,17] st (wn1 s 0)/\s.length<=12/\wab (s.all wbk) (Q (.exit 0) ⟨[(4,.q (wa8 s s.length))],[],0,[]⟩) (Q .ret ⟨[(2,.q 0),(3,.bool false)],[],0,[]⟩)
theorem ww2{s:List UInt8}:∀k,k<=s.length->(∀j,j<k->48<=(s.getD j 0).toNat/\(s.getD j 0).toNat<=57)->0<=wa8 s k/\wa8 s k<=27 * k
 |0,_,_=>by simp[wa8]
 |k+1,hk,h=>by
  have ih:=ww2 k (by omega) λj hj=>h j (by omega);have hd:=h k (by omega);simp only[wa8]
  rcases Int.emod_two_eq (↑s.length - ↑k) with e | e<;>rw[e]<;>omega
theorem w56{s:List UInt8}(h:∀j,j<s.length->48<=(s.getD j 0).toNat/\(s.getD j 0).toNat<=57):s.all wbk=true:=by
 refine List.all_eq_true.2 λb hb=>?_;obtain⟨j,hj,rfl⟩:=List.getElem_of_mem hb;have:=h j hj;have e:s.getD j 0=s[j]:=by simp[List.getD,hj]
 rw[e] at this;simp[wbk,this.1,this.2]
theorem w5h(s:List UInt8):0<=(cdF s).1/\(cdF s).1<=9:=by
 unfold cdF;split
 ·show 0<=(10 - wa8 s s.length % 10) % 10/\(10 - wa8 s s.length % 10) % 10<=9;omega
 ·exact⟨by decide,by decide⟩
def qtyF(d c a:Int):Int:=bif decide (d<1) then 80 else bif decide (4<d) then 80 else bif decide (c<1) then 81 else bif decide (100<c) then 81 else bif decide (a<1) then 82 else bif decide (Int.tdiv 1099511627776 c<a) then 82 else 0
def wmr:Spec
 |[.agg [.int .i64 d,.int .i64 c,.int .i64 a]],[]=>some (.q (qtyF d c a),[],True)
 |_,_=>none
theorem wza{c:Int}(h1:¬ c<1)(h2:¬ 100<c):c≠0/\inR .i64 (Int.tdiv 1099511627776 c):=by
 refine⟨by omega,?_⟩;rw[Int.tdiv_eq_ediv_of_nonneg (by omega)];simp only[inR];have h3:0<=1099511627776 / c:=Int.ediv_nonneg (by omega) (by omega);have h4:1099511627776 / c<=1099511627776:=Int.ediv_le_self _ (by omega);omega
def wgf(s:List UInt8):Int:=match wd4 s with
 |true=>(words s).length
 |false=>match decide (s=[]) with
  |true=>0
  |false=> -1
def wm8:Spec
 |[.str s],[]=>some (.q (wgf s),[],s.length<4294967281)
 |_,_=>none
theorem w3j(s:List UInt8):decide (wgf s<1)= !wd4 s:=by
 unfold wgf
 cases h:wd4 s with
 |true=>
  have hn:1<=(words s).length:=by rw[wh7];omega
  have hlt:¬ (((words s).length:Int)<1):=by omega
  exact decide_eq_false hlt
 |false=>cases decide (s=[])<;>rfl
def wi5(nm:Nat->List UInt8):Nat->Nat->Bool
 |0,_=>true
 |j+1,k=>wi5 nm j k && !decide (nm k=nm j)
def atOK(nm vl:Nat->List UInt8)(k:Nat):Bool:=wa3 (nm k) && wa3 (vl k) && wi5 nm k k
def weh(nm vl:Nat->List UInt8):Nat->Bool
 |0=>true
 |k+1=>weh nm vl k && atOK nm vl k
def valF(id code brand:List UInt8)(d c a:Int)(n:Nat)(nm vl:Nat->List UInt8):Int:=
 bif !wba id then 90 else bif !wd4 code then 91 else bif !wa3 brand then 92 else bif !decide (qtyF d c a=0) then 93 else bif decide (12<n) then 94 else bif weh nm vl n then 0 else 94
def nmOf(f:Nat->List AV)(i:Nat):List UInt8:=wb4 ((f i).getD 0 .any)
def vlOf(f:Nat->List AV)(i:Nat):List UInt8:=wb4 ((f i).getD 1 .any)
def wfw(nm vl:Nat->List UInt8):Nat->List AV:=λi=>[.str (nm i),.str (vl i)]
end Go.Eng
