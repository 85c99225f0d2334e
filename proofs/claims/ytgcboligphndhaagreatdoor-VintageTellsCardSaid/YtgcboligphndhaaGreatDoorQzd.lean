/- The tied card of VintageTells: its statement is 'VintageTellsCardSaid' of the given cards. -/
import Derived.Test.YtgcboligphndhaaGreatDoorQu
import Derived.Test.YtgcboligphndhaaGreatDoorQzc
import Derived.Test.YtgcboligphndhaaGreatDoorQn
import Derived.Test.YtgcboligphndhaaGreatDoorQo
import Derived.Test.YtgcboligphndhaaGreatDoorQm
import Derived.Test.YtgcboligphndhaaGreatDoorCards
import Derived.Test.YtgcboligphndhaaGreatDoorTie
import Derived.SevenTiedAt
namespace Go.Eng
open Go.Proofs Go.RowKit
variable {C:Ctx} [C.Loose]
set_option maxRecDepth 20000
theorem nf_t13 (n:Nat) (v:Nat→Int) (a:Int) (F G:FL) (Q:Exit→St→Prop):regP ⟨te,[(36,.det wln)],[],0,75,0⟩ (regC Tryz.f7 13) [7,8,9] Q (S_tl n v a F G)=(letI z2:=msgV n (vInt (waa v)) a;letI z1:=([.str ([]),.int .i64 0,.int .i64 0,.str ([]),.str ([]),.int .i64 0,.int .i64 0,.int .i64 0,.int .i64 0,.str ([]),.str ([]),.str ([]),.int .i64 0,.str ([]),.int .i64 0]:List AV);letI z3:=apF 0 (waz (TI.sz wep) (List.flatten (List.replicate 0 z1))) (waf (atM (FL.ms G)));letI z0:=waz (TI.sz wep) (.str (MG.dev z2):: .int .i64 (MG.seq z2):: .int .i64 (MG.kind z2):: .str (VT.o (MG.v z2)):: .str (VT.p (MG.v z2)):: .int .i64 (VT.per (MG.v z2)):: .int .i64 (VT.day (MG.v z2)):: .int .i64 (VT.st (MG.v z2)):: .int .i64 (VT.pr (MG.v z2)):: .str (VT.rep (MG.v z2)):: .str (DT.o (MG.d z2)):: .str (DT.p (MG.d z2)):: .int .i64 (DT.per (MG.d z2)):: .str (DT.dev (MG.d z2)):: .int .i64 (DT.num (MG.d z2))::List.append [] (List.flatten (List.replicate (nat_lit 0) z1)));(0≤16777216∧15=15∧0≤9223372036854775807)∧(15=15∧0≤0∧15=15∧40=40∧15=15∧0+List.length (FL.ms G)≤9223372036854775807∧(0+List.length (FL.ms G)) * TI.bytes wep≤140737488355328)∧(27=27∧1=1∧waa v=waa (vInt (waa v))∧(0:Int)≤a∧a≤(4611686018427385000:Int))∧(15≤16777216∧15=15∧1≤9223372036854775807)∧((1≤1∧15=15)∧0+List.length (FL.ms G)≤0+List.length (FL.ms G)∧15=15∧40=40∧15=15∧0+List.length (FL.ms G)+1≤9223372036854775807∧(0+List.length (FL.ms G)+1) * TI.bytes wep≤140737488355328)∧(∀ (i:Nat),i<0+List.length (FL.ms G)+1→nrefL (apF (0+List.length (FL.ms G)) z3 z0 i)=true)∧∃ (O':List (Nat×AObj)),wag [(0,.cells [.view 1 n (waa v),.int .i64 (msgA n (vInt (waa v)) a)] 27),(1,.cells [.str (FL.id F),.int .i64 (FL.ver F),.int .i64 (FL.day F),.int .i64 (FL.kind F),.view 15 (List.length (FL.ms F)) (waf (atM (FL.ms F))),.view 5 (List.length (FL.rs F)) (wah (atR (FL.rs F))),.view 5 (List.length (FL.ts F)) (wai (atT (FL.ts F)))] 49),(2,.cells [.str (FL.id G),.int .i64 (FL.ver G),.int .i64 (FL.day G),.int .i64 (FL.kind G),.own 3 (0+List.length (FL.ms G)+1),.view 5 (List.length (FL.rs G)) (wah (atR (FL.rs G))),.view 5 (List.length (FL.ts G)) (wai (atT (FL.ts G)))] 49),(3,.row 40 15 (0+List.length (FL.ms G)+1) (apF (0+List.length (FL.ms G)) z3 z0) false)] O'∧Q .normal (St.mk [(7,.ptr 0 0),(8,.ptr 1 0),(9,.ptr 2 0)] O' 4 [])):=by kernel_rfl
theorem nf_t15 (n:Nat) (v:Nat→Int) (a:Int) (F G:FL) (Q:Exit→St→Prop):regP ⟨te,[(37,.det we6)],[],0,75,0⟩ (regC Tryz.f7 15) [7,8,9] Q (S_tl n v a F G)=(letI z3:=([.str ([]),.str ([]),.int .i64 0,.int .i64 0,.int .i64 0]:List AV);letI z2:=rowV n (vInt (waa v)) a;letI z1:=apF 0 (waz (TI.sz wc3) (List.flatten (List.replicate 0 z3))) (wah (atR (FL.rs G)));letI z0:=waz (TI.sz wc3) (.str (RW.o z2):: .str (RW.p z2):: .int .i64 (RW.per z2):: .int .i64 (RW.u z2):: .int .i64 (RW.tv z2)::List.append [] (List.flatten (List.replicate (nat_lit 0) z3)));(0≤16777216∧5=5∧0≤9223372036854775807)∧(5=5∧0≤0∧5=5∧61=61∧5=5∧0+List.length (FL.rs G)≤9223372036854775807∧(0+List.length (FL.rs G)) * TI.bytes wc3≤140737488355328)∧(27=27∧1=1∧waa v=waa (vInt (waa v))∧(0:Int)≤a∧a≤(4611686018427380000:Int))∧(5≤16777216∧5=5∧1≤9223372036854775807)∧((1≤1∧5=5)∧0+List.length (FL.rs G)≤0+List.length (FL.rs G)∧5=5∧61=61∧5=5∧0+List.length (FL.rs G)+1≤9223372036854775807∧(0+List.length (FL.rs G)+1) * TI.bytes wc3≤140737488355328)∧(∀ (i:Nat),i<0+List.length (FL.rs G)+1→nrefL (apF (0+List.length (FL.rs G)) z1 z0 i)=true)∧∃ (O':List (Nat×AObj)),wag [(0,.cells [.view 1 n (waa v),.int .i64 (a+(1:Int)+(1:Int)+(1:Int)+(1:Int)+(1:Int)+(1:Int))] 27),(1,.cells [.str (FL.id F),.int .i64 (FL.ver F),.int .i64 (FL.day F),.int .i64 (FL.kind F),.view 15 (List.length (FL.ms F)) (waf (atM (FL.ms F))),.view 5 (List.length (FL.rs F)) (wah (atR (FL.rs F))),.view 5 (List.length (FL.ts F)) (wai (atT (FL.ts F)))] 49),(2,.cells [.str (FL.id G),.int .i64 (FL.ver G),.int .i64 (FL.day G),.int .i64 (FL.kind G),.view 15 (List.length (FL.ms G)) (waf (atM (FL.ms G))),.own 3 (0+List.length (FL.rs G)+1),.view 5 (List.length (FL.ts G)) (wai (atT (FL.ts G)))] 49),(3,.row 61 5 (0+List.length (FL.rs G)+1) (apF (0+List.length (FL.rs G)) z1 z0) false)] O'∧Q .normal (St.mk [(7,.ptr 0 0),(8,.ptr 1 0),(9,.ptr 2 0)] O' 4 [])):=by kernel_rfl
theorem nf_tl (n:Nat) (v:Nat→Int) (wh by_:Int) (R:AV→List (Nat×AObj)→Prop):wpFn te [(32,.rel wmt),(35,.det wg0),(33,.det we8),(31,.det wmk)] [(1013,wm1 n v),(1015,wm0 n v)] 0 Tryz.f7 [.view 1 n (waa v),.int .i64 wh,.int .i64 by_] [] R=(letI z19:=([(7,.ptr 0 0),(8,.ptr 1 0),(9,.ptr 2 0)]:List (Nat×AV));letI z18:=R (.bool false) [];letI z14:=True∧R (.bool true) [];27=27∧1=1∧waa v=waa (vInt (waa v))∧((0:Int)≤(0:Int)∧(0:Int)≤(4611686018427360000:Int))∧∀ (F:FL) (a':Int),letI z11:=wai (atT (FL.ts F));letI z10:=List.length (FL.ts F);letI z9:=wah (atR (FL.rs F));letI z8:=List.length (FL.rs F);letI z7:=waf (atM (FL.ms F));letI z6:=List.length (FL.ms F);letI z17:=(flV (FL.id F) (FL.ver F) ((43860:Int)+wbe by_ (50:Int)) (FL.kind F+(1:Int)) z6 z7 z8 z9 z10 z11);letI z16:=(flV (FL.id F) (FL.ver F+(1:Int)) ((43860:Int)+wbe by_ (50:Int)) (FL.kind F) z6 z7 z8 z9 z10 z11);letI z15:=(flV (FL.id F++[(49:UInt8)]) (FL.ver F) ((43860:Int)+wbe by_ (50:Int)) (FL.kind F) z6 z7 z8 z9 z10 z11);letI z2:=(flV (FL.id F) (FL.ver F) ((43860:Int)+wbe by_ (50:Int)) (FL.kind F) z6 z7 z8 z9 z10 z11);letI z1:=(St.mk z19 [(0,.cells [.view 1 n (waa v),.int .i64 a'] 27),(1,.cells [.str (FL.id F),.int .i64 (FL.ver F),.int .i64 (FL.day F),.int .i64 (FL.kind F),.view 15 z6 z7,.view 5 z8 z9,.view 5 z10 z11] 49),(2,.cells [.str (FL.id F),.int .i64 (FL.ver F),.int .i64 ((43860:Int)+wbe by_ (50:Int)),.int .i64 (FL.kind F),.view 15 z6 z7,.view 5 z8 z9,.view 5 z10 z11] 49)] 3 []);letI z0:=flV (FL.id F) (FL.ver F) (FL.day F) (FL.kind F) z6 z7 z8 z9 z10 z11;letI z3:=FlC z6 z7 z8 z9 z10 z11∧FL.Rg z0;FL.Tn F→FL.Low F→(0:Int)≤a'∧a'≤(0:Int)+(1100:Int)→((1:Int)≤(50:Int)∧(50:Int)≤(1000000:Int))∧inR .i64 ((43860:Int)+wbe by_ (50:Int))∧z3∧(FlC z6 z7 z8 z9 z10 z11∧FL.Rg z2)∧wac (!decide (encF z0=encF z2)) z18 (((1:Int)≤(5:Int)∧(5:Int)≤(1000000:Int))∧wac (decide (wbe wh (5:Int)=(0:Int))) (List.length (FL.id F)+List.length ([(49:UInt8)])≤9223372036854775807∧z3∧(FlC z6 z7 z8 z9 z10 z11∧FL.Rg z15)∧wac (!decide (encF z0=encF z15)) z14 z18) (wac (decide (wbe wh (5:Int)=(1:Int))) (inR .i64 (FL.ver F+(1:Int))∧z3∧(FlC z6 z7 z8 z9 z10 z11∧FL.Rg z16)∧wac (!decide (encF z0=encF z16)) z14 z18) (wac (decide (wbe wh (5:Int)=(2:Int))) (∃ (a:Int),∃ (F_1:FL),∃ (G:FL),letI z4:=FL.addM G (msgV n v a);letI z12:=flV (FL.id z4) (FL.ver z4) (FL.day z4) (FL.kind z4) (List.length (FL.ms z4)) (waf (atM (FL.ms z4))) (List.length (FL.rs z4)) (wah (atR (FL.rs z4))) (List.length (FL.ts z4)) (wai (atT (FL.ts z4)));some z1=some (St.mk z19 [(0,.cells [.view 1 n (waa v),.int .i64 a] 27),(1,.cells [.str (FL.id F_1),.int .i64 (FL.ver F_1),.int .i64 (FL.day F_1),.int .i64 (FL.kind F_1),.view 15 (List.length (FL.ms F_1)) (waf (atM (FL.ms F_1))),.view 5 (List.length (FL.rs F_1)) (wah (atR (FL.rs F_1))),.view 5 (List.length (FL.ts F_1)) (wai (atT (FL.ts F_1)))] 49),(2,.cells [.str (FL.id G),.int .i64 (FL.ver G),.int .i64 (FL.day G),.int .i64 (FL.kind G),.view 15 (List.length (FL.ms G)) (waf (atM (FL.ms G))),.view 5 (List.length (FL.rs G)) (wah (atR (FL.rs G))),.view 5 (List.length (FL.ts G)) (wai (atT (FL.ts G)))] 49)] 3 [])∧((0:Int)≤a∧a≤(4611686018427365000:Int))∧List.length (FL.ms G)≤1000∧∀ (_a':Int),(FlC (List.length (FL.ms F_1)) (waf (atM (FL.ms F_1))) (List.length (FL.rs F_1)) (wah (atR (FL.rs F_1))) (List.length (FL.ts F_1)) (wai (atT (FL.ts F_1)))∧FL.Rg (flV (FL.id F_1) (FL.ver F_1) (FL.day F_1) (FL.kind F_1) (List.length (FL.ms F_1)) (waf (atM (FL.ms F_1))) (List.length (FL.rs F_1)) (wah (atR (FL.rs F_1))) (List.length (FL.ts F_1)) (wai (atT (FL.ts F_1)))))∧(FlC (List.length (FL.ms z4)) (waf (atM (FL.ms z4))) (List.length (FL.rs z4)) (wah (atR (FL.rs z4))) (List.length (FL.ts z4)) (wai (atT (FL.ts z4)))∧FL.Rg z12)∧wac (!decide (encF (flV (FL.id F_1) (FL.ver F_1) (FL.day F_1) (FL.kind F_1) (List.length (FL.ms F_1)) (waf (atM (FL.ms F_1))) (List.length (FL.rs F_1)) (wah (atR (FL.rs F_1))) (List.length (FL.ts F_1)) (wai (atT (FL.ts F_1))))=encF z12)) z14 z18) (wac (decide (wbe wh (5:Int)=(3:Int))) (∃ (a:Int),∃ (F_1:FL),∃ (G:FL),letI z5:=FL.addR G (rowV n v a);letI z13:=flV (FL.id z5) (FL.ver z5) (FL.day z5) (FL.kind z5) (List.length (FL.ms z5)) (waf (atM (FL.ms z5))) (List.length (FL.rs z5)) (wah (atR (FL.rs z5))) (List.length (FL.ts z5)) (wai (atT (FL.ts z5)));some z1=some (St.mk z19 [(0,.cells [.view 1 n (waa v),.int .i64 a] 27),(1,.cells [.str (FL.id F_1),.int .i64 (FL.ver F_1),.int .i64 (FL.day F_1),.int .i64 (FL.kind F_1),.view 15 (List.length (FL.ms F_1)) (waf (atM (FL.ms F_1))),.view 5 (List.length (FL.rs F_1)) (wah (atR (FL.rs F_1))),.view 5 (List.length (FL.ts F_1)) (wai (atT (FL.ts F_1)))] 49),(2,.cells [.str (FL.id G),.int .i64 (FL.ver G),.int .i64 (FL.day G),.int .i64 (FL.kind G),.view 15 (List.length (FL.ms G)) (waf (atM (FL.ms G))),.view 5 (List.length (FL.rs G)) (wah (atR (FL.rs G))),.view 5 (List.length (FL.ts G)) (wai (atT (FL.ts G)))] 49)] 3 [])∧((0:Int)≤a∧a≤(4611686018427365000:Int))∧List.length (FL.rs G)≤1000∧∀ (_a':Int),(FlC (List.length (FL.ms F_1)) (waf (atM (FL.ms F_1))) (List.length (FL.rs F_1)) (wah (atR (FL.rs F_1))) (List.length (FL.ts F_1)) (wai (atT (FL.ts F_1)))∧FL.Rg (flV (FL.id F_1) (FL.ver F_1) (FL.day F_1) (FL.kind F_1) (List.length (FL.ms F_1)) (waf (atM (FL.ms F_1))) (List.length (FL.rs F_1)) (wah (atR (FL.rs F_1))) (List.length (FL.ts F_1)) (wai (atT (FL.ts F_1)))))∧(FlC (List.length (FL.ms z5)) (waf (atM (FL.ms z5))) (List.length (FL.rs z5)) (wah (atR (FL.rs z5))) (List.length (FL.ts z5)) (wai (atT (FL.ts z5)))∧FL.Rg z13)∧wac (!decide (encF (flV (FL.id F_1) (FL.ver F_1) (FL.day F_1) (FL.kind F_1) (List.length (FL.ms F_1)) (waf (atM (FL.ms F_1))) (List.length (FL.rs F_1)) (wah (atR (FL.rs F_1))) (List.length (FL.ts F_1)) (wai (atT (FL.ts F_1))))=encF z13)) z14 z18) (wac (decide (wbe wh (5:Int)=(4:Int))) (inR .i64 (FL.kind F+(1:Int))∧z3∧(FlC z6 z7 z8 z9 z10 z11∧FL.Rg z17)∧wac (!decide (encF z0=encF z17)) z14 z18) (z3∧(FlC z6 z7 z8 z9 z10 z11∧FL.Rg z2)∧wac (!decide (encF z0=encF z2)) z14 z18))))))):=by kernel_rfl
theorem snoc0 {α:Type} (enc:α→List AV) (d:α) (L:List α) (x:α) (c ch:Nat→List AV) (hc:ch 0=enc x):∀ i,i<(L++[x]).length→apF (0+L.length) (apF 0 c fun i=>enc (L.getD i d)) ch i=enc ((L++[x]).getD i d):=fun i hi=>by
 have e0:(apF 0 c fun i=>enc (L.getD i d))=fun i=>enc (L.getD i d):=by
  funext i
  unfold apF
  rw [if_neg (Nat.not_lt_zero i),Nat.sub_zero]
 rw [e0,Nat.zero_add]
 exact snocG enc d L x ch hc i (by rw [List.length_append,List.length_singleton] at hi;exact hi)
theorem tl_frzm (n:Nat) (v:Nat→Int) (a:Int) (F G:FL) (L:List MG):frzX 3 [] ⟨[(7,.ptr 0 0),(8,.ptr 1 0),(9,.ptr 2 0)],[(0,.cells [.view 1 n (waa v),.int .i64 a] 27),(1,.cells [.str F.id,.int .i64 F.ver,.int .i64 F.day,.int .i64 F.kind,.view 15 F.ms.length (waf (atM F.ms)),.view 5 F.rs.length (wah (atR F.rs)),.view 5 F.ts.length (wai (atT F.ts))] 49),(2,.cells [.str G.id,.int .i64 G.ver,.int .i64 G.day,.int .i64 G.kind,.own 3 L.length,.view 5 G.rs.length (wah (atR G.rs)),.view 5 G.ts.length (wai (atT G.ts))] 49),(3,.row 40 15 L.length (waf (atM L)) false)],4,[]⟩=⟨[(7,.ptr 0 0),(8,.ptr 1 0),(9,.ptr 2 0)],[(0,.cells [.view 1 n (waa v),.int .i64 a] 27),(1,.cells [.str F.id,.int .i64 F.ver,.int .i64 F.day,.int .i64 F.kind,.view 15 F.ms.length (waf (atM F.ms)),.view 5 F.rs.length (wah (atR F.rs)),.view 5 F.ts.length (wai (atT F.ts))] 49),(2,.cells [.str G.id,.int .i64 G.ver,.int .i64 G.day,.int .i64 G.kind,.view 15 L.length (waf (atM L)),.view 5 G.rs.length (wah (atR G.rs)),.view 5 G.ts.length (wai (atT G.ts))] 49)],4,[]⟩:=by
 have hb:Nat.ble L.length L.length=true:=Nat.ble_eq_true_of_le (Nat.le_refl _)
 show (⟨_,[_,_,(2,.cells [.str G.id,.int .i64 G.ver,.int .i64 G.day,.int .i64 G.kind,frz 3 15 L.length (waf (atM L)) (.own 3 L.length),.view 5 G.rs.length (wah (atR G.rs)),.view 5 G.ts.length (wai (atT G.ts))] 49)],4,[]⟩:St)=_
 simp only [frz,hb]
 rfl
theorem tl_frzr (n:Nat) (v:Nat→Int) (a:Int) (F G:FL) (L:List RW):frzX 3 [] ⟨[(7,.ptr 0 0),(8,.ptr 1 0),(9,.ptr 2 0)],[(0,.cells [.view 1 n (waa v),.int .i64 a] 27),(1,.cells [.str F.id,.int .i64 F.ver,.int .i64 F.day,.int .i64 F.kind,.view 15 F.ms.length (waf (atM F.ms)),.view 5 F.rs.length (wah (atR F.rs)),.view 5 F.ts.length (wai (atT F.ts))] 49),(2,.cells [.str G.id,.int .i64 G.ver,.int .i64 G.day,.int .i64 G.kind,.view 15 G.ms.length (waf (atM G.ms)),.own 3 L.length,.view 5 G.ts.length (wai (atT G.ts))] 49),(3,.row 61 5 L.length (wah (atR L)) false)],4,[]⟩=⟨[(7,.ptr 0 0),(8,.ptr 1 0),(9,.ptr 2 0)],[(0,.cells [.view 1 n (waa v),.int .i64 a] 27),(1,.cells [.str F.id,.int .i64 F.ver,.int .i64 F.day,.int .i64 F.kind,.view 15 F.ms.length (waf (atM F.ms)),.view 5 F.rs.length (wah (atR F.rs)),.view 5 F.ts.length (wai (atT F.ts))] 49),(2,.cells [.str G.id,.int .i64 G.ver,.int .i64 G.day,.int .i64 G.kind,.view 15 G.ms.length (waf (atM G.ms)),.view 5 L.length (wah (atR L)),.view 5 G.ts.length (wai (atT G.ts))] 49)],4,[]⟩:=by
 have hb:Nat.ble L.length L.length=true:=Nat.ble_eq_true_of_le (Nat.le_refl _)
 show (⟨_,[_,_,(2,.cells [.str G.id,.int .i64 G.ver,.int .i64 G.day,.int .i64 G.kind,.view 15 G.ms.length (waf (atM G.ms)),frz 3 5 L.length (wah (atR L)) (.own 3 L.length),.view 5 G.ts.length (wai (atT G.ts))] 49)],4,[]⟩:St)=_
 simp only [frz,hb]
 rfl
theorem t13_ok (hP:C.P=Tryz.prog) (n:Nat) (v:Nat→Int):waj C 0 75 (regC Tryz.f7 13) (wm1 n v):=by
 rintro s Q ⟨a,F,G,h0,ha,hm,hQ⟩
 refine AWP.canonIs (te:=te) [7,8,9] h0 (AWP.frzXQ 3 [] ?_) trivial
 refine waj.reg (S:=S_tl n v a F G) (prg hP) [(36,.det wln)] 0 (.cons (wze hP) .nil) [7,8,9] [7,8,9] rfl ?_ trivial
 have hw:vInt (waa v)=v:=rfl
 have e:0+G.ms.length+1=(G.ms++[msgV n v a]).length:=by simp
 rw [nf_t13,hw,e]
 have hl:(G.ms++[msgV n v a]).length=G.ms.length+1:=by simp
 have H:=fun c ch hc=>snoc0 mgC default G.ms (msgV n v a) c ch hc
 refine ⟨⟨by omega,rfl,by omega⟩,⟨rfl,Nat.le_refl _,rfl,rfl,rfl,by omega,?_⟩,⟨rfl,rfl,rfl,by omega,by omega⟩,⟨by omega,rfl,by omega⟩,⟨⟨Nat.le_refl _,rfl⟩,Nat.le_refl _,rfl,rfl,rfl,by omega,?_⟩,fun i hi=>(congrArg nrefL (H _ _ rfl i hi)).trans rfl,
  [(0,.cells [.view 1 n (waa v),.int .i64 (msgA n v a)] 27),(1,.cells [.str F.id,.int .i64 F.ver,.int .i64 F.day,.int .i64 F.kind,.view 15 F.ms.length (waf (atM F.ms)),.view 5 F.rs.length (wah (atR F.rs)),.view 5 F.ts.length (wai (atT F.ts))] 49),(2,.cells [.str G.id,.int .i64 G.ver,.int .i64 G.day,.int .i64 G.kind,.own 3 (G.ms++[msgV n v a]).length,.view 5 G.rs.length (wah (atR G.rs)),.view 5 G.ts.length (wai (atT G.ts))] 49),(3,.row 40 15 (G.ms++[msgV n v a]).length (waf (atM (G.ms++[msgV n v a]))) false)],⟨rfl,rfl,rfl,⟨rfl,rfl,rfl,rfl,rfl,H _ _ rfl⟩,trivial⟩,fun _ _=>rfl,?_⟩
 ·show (0+G.ms.length) * 176≤_
  omega
 ·show _ * 176≤_
  omega
 ·show Q .normal (frzX 3 [] ⟨[(7,.ptr 0 0),(8,.ptr 1 0),(9,.ptr 2 0)],[(0,.cells [.view 1 n (waa v),.int .i64 (msgA n v a)] 27),(1,.cells [.str F.id,.int .i64 F.ver,.int .i64 F.day,.int .i64 F.kind,.view 15 F.ms.length (waf (atM F.ms)),.view 5 F.rs.length (wah (atR F.rs)),.view 5 F.ts.length (wai (atT F.ts))] 49),(2,.cells [.str G.id,.int .i64 G.ver,.int .i64 G.day,.int .i64 G.kind,.own 3 (G.ms++[msgV n v a]).length,.view 5 G.rs.length (wah (atR G.rs)),.view 5 G.ts.length (wai (atT G.ts))] 49),(3,.row 40 15 (G.ms++[msgV n v a]).length (waf (atM (G.ms++[msgV n v a]))) false)],4,[]⟩)
  rw [tl_frzm n v _ F G (G.ms++[msgV n v a])]
  exact hQ _
theorem t15_ok (hP:C.P=Tryz.prog) (n:Nat) (v:Nat→Int):waj C 0 75 (regC Tryz.f7 15) (wm0 n v):=by
 rintro s Q ⟨a,F,G,h0,ha,hm,hQ⟩
 refine AWP.canonIs (te:=te) [7,8,9] h0 (AWP.frzXQ 3 [] ?_) trivial
 refine waj.reg (S:=S_tl n v a F G) (prg hP) [(37,.det we6)] 0 (.cons (wn0 hP) .nil) [7,8,9] [7,8,9] rfl ?_ trivial
 have hw:vInt (waa v)=v:=rfl
 have e:0+G.rs.length+1=(G.rs++[rowV n v a]).length:=by simp
 rw [nf_t15,hw,e]
 have hl:(G.rs++[rowV n v a]).length=G.rs.length+1:=by simp
 have H:=fun c ch hc=>snoc0 (fun r:RW=>[.str r.o,.str r.p,.int .i64 r.per,.int .i64 r.u,.int .i64 r.tv]) default G.rs (rowV n v a) c ch hc
 refine ⟨⟨by omega,rfl,by omega⟩,⟨rfl,Nat.le_refl _,rfl,rfl,rfl,by omega,?_⟩,⟨rfl,rfl,rfl,by omega,by omega⟩,⟨by omega,rfl,by omega⟩,⟨⟨Nat.le_refl _,rfl⟩,Nat.le_refl _,rfl,rfl,rfl,by omega,?_⟩,fun i hi=>(congrArg nrefL (H _ _ rfl i hi)).trans rfl,
  [(0,.cells [.view 1 n (waa v),.int .i64 (a+1+1+1+1+1+1)] 27),(1,.cells [.str F.id,.int .i64 F.ver,.int .i64 F.day,.int .i64 F.kind,.view 15 F.ms.length (waf (atM F.ms)),.view 5 F.rs.length (wah (atR F.rs)),.view 5 F.ts.length (wai (atT F.ts))] 49),(2,.cells [.str G.id,.int .i64 G.ver,.int .i64 G.day,.int .i64 G.kind,.view 15 G.ms.length (waf (atM G.ms)),.own 3 (G.rs++[rowV n v a]).length,.view 5 G.ts.length (wai (atT G.ts))] 49),(3,.row 61 5 (G.rs++[rowV n v a]).length (wah (atR (G.rs++[rowV n v a]))) false)],⟨rfl,rfl,rfl,⟨rfl,rfl,rfl,rfl,rfl,H _ _ rfl⟩,trivial⟩,fun _ _=>rfl,?_⟩
 ·show (0+G.rs.length) * 56≤_
  omega
 ·show _ * 56≤_
  omega
 ·show Q .normal (frzX 3 [] ⟨[(7,.ptr 0 0),(8,.ptr 1 0),(9,.ptr 2 0)],[(0,.cells [.view 1 n (waa v),.int .i64 (a+1+1+1+1+1+1)] 27),(1,.cells [.str F.id,.int .i64 F.ver,.int .i64 F.day,.int .i64 F.kind,.view 15 F.ms.length (waf (atM F.ms)),.view 5 F.rs.length (wah (atR F.rs)),.view 5 F.ts.length (wai (atT F.ts))] 49),(2,.cells [.str G.id,.int .i64 G.ver,.int .i64 G.day,.int .i64 G.kind,.view 15 G.ms.length (waf (atM G.ms)),.own 3 (G.rs++[rowV n v a]).length,.view 5 G.ts.length (wai (atT G.ts))] 49),(3,.row 61 5 (G.rs++[rowV n v a]).length (wah (atR (G.rs++[rowV n v a]))) false)],4,[]⟩)
  rw [tl_frzr n v _ F G (G.rs++[rowV n v a])]
  exact hQ _
theorem wig {F G:FL} (h:∀ d,(⟨F.id,F.ver,d,F.kind,F.ms,F.rs,F.ts⟩:FL)≠⟨G.id,G.ver,d,G.kind,G.ms,G.rs,G.ts⟩):¬ encF F=encF G:=fun e=>
 h 0 (w0z (f:=⟨F.id,F.ver,0,F.kind,F.ms,F.rs,F.ts⟩) (g:=⟨G.id,G.ver,0,G.kind,G.ms,G.rs,G.ts⟩) e rfl)
theorem woq {α:Type} (l:List α) (x:α):l≠l++[x]:=fun e=>by
 have:=congrArg List.length e
 rw [List.length_append,List.length_singleton] at this
 omega
theorem tl_ok (hP:C.P=Tryz.prog) (hL:∀ w,C.laid w→LaidW w) (n:Nat) (v:Nat→Int) (wh by_:Int):ADet C 7 [.view 1 n (waa v),.int .i64 wh,.int .i64 by_] [] (.bool true) []:=by
 refine wae.wpL (prg hP) [(32,.rel wmt),(35,.det wg0),(33,.det we8),(31,.det wmk)] [(1013,wm1 n v),(1015,wm0 n v)] 0
  (.cons (file_ok hP) (.cons (wtx hP) (.cons (wpu hP hL) (.cons (w12 hP hL) .nil)))) (hP ▸ Tryz.func7) rfl rfl rfl [(regC Tryz.f7 13,wm1 n v),(regC Tryz.f7 15,wm0 n v)] (by kernel_rfl) ⟨t13_ok hP n v,t15_ok hP n v,trivial⟩ ?_
 rw [nf_tl]
 refine ⟨rfl,rfl,rfl,⟨by omega,by omega⟩,fun F a hF hl ha=>?_⟩
 have q5:=wfv (show (1:Int)≤5 by omega) wh
 have q50:=wfv (show (1:Int)≤50 by omega) by_
 have hv:=hl.ver
 have hk:=hl.kind
 have fin:∀ {P:Prop} {a b:List UInt8},¬ a=b→wac (!decide (a=b)) (True∧((AV.bool true)= .bool true∧([]:List (Nat×AObj))=[])) P:=fun h=>wcc (fun _=>⟨trivial,rfl,rfl⟩) (fun e=>absurd e h)
 have eF:∀ G:FL,flV G.id G.ver G.day G.kind G.ms.length (waf (atM G.ms)) G.rs.length (wah (atR G.rs)) G.ts.length (wai (atT G.ts))=G:=wdg
 have tM:=wsp (wzc n v a).1.ok
 have tR:=wog (wof n v a).1
 let G:FL:=⟨F.id,F.ver,43860+wbe by_ 50,F.kind,F.ms,F.rs,F.ts⟩
 have hG:G.Tn:=⟨hF.id,hF.ver,hF.kind,hF.m,hF.r,hF.t⟩
 have l4:=hl.m
 have l5:=hl.r
 have l6:=hl.id
 refine ⟨⟨by omega,by omega⟩,by simp only [inR];omega,encA F hF,encA G hG,wcc (fun h=>absurd ?_ h) (fun _=>⟨⟨by omega,by omega⟩,wal (fun _=>?_) (fun _=>wal (fun _=>?_) (fun _=>wal (fun _=>?_) (fun _=>wal (fun _=>?_) (fun _=>wal (fun _=>?_) (fun _=>absurd q5 (by omega))))))⟩)⟩
 ·rw [eF F,show flV F.id F.ver (43860+wbe by_ 50) F.kind F.ms.length (waf (atM F.ms)) F.rs.length (wah (atR F.rs)) F.ts.length (wai (atT F.ts))=G from eF G];rfl
 ·let H:FL:=⟨F.id++[49],F.ver,43860+wbe by_ 50,F.kind,F.ms,F.rs,F.ts⟩
  have hH:H.Tn:=⟨by show (F.id++[49]).length≤100;rw [List.length_append,List.length_singleton];omega,hF.ver,hF.kind,hF.m,hF.r,hF.t⟩
  refine ⟨by show F.id.length+1≤_;have:=hF.id;omega,encA F hF,encA H hH,fin ?_⟩
  rw [eF F,show flV (F.id++[49]) F.ver (43860+wbe by_ 50) F.kind F.ms.length (waf (atM F.ms)) F.rs.length (wah (atR F.rs)) F.ts.length (wai (atT F.ts))=H from eF H]
  exact wig fun d e=>woq _ _ (congrArg FL.id e)
 ·let H:FL:=⟨F.id,F.ver+1,43860+wbe by_ 50,F.kind,F.ms,F.rs,F.ts⟩
  have hr:inR .i64 (F.ver+1):=by simp only [inR];omega
  have hH:H.Tn:=⟨hF.id,hr,hF.kind,hF.m,hF.r,hF.t⟩
  refine ⟨hr,encA F hF,encA H hH,fin ?_⟩
  rw [eF F,show flV F.id (F.ver+1) (43860+wbe by_ 50) F.kind F.ms.length (waf (atM F.ms)) F.rs.length (wah (atR F.rs)) F.ts.length (wai (atT F.ts))=H from eF H]
  exact wig fun d e=>by
   have:F.ver=F.ver+1:=congrArg FL.ver e
   omega
 ·have hH:(G.addM (msgV n v a)).Tn:=⟨hF.id,hF.ver,hF.kind,⟨by show (F.ms++[_]).length≤1000;rw [List.length_append,List.length_singleton];omega,wrd hF.m.2 tM⟩,hF.r,hF.t⟩
  refine ⟨a,F,G,rfl,⟨by omega,by omega⟩,by show F.ms.length≤1000;omega,fun a'=>⟨encA F hF,encA _ hH,fin ?_⟩⟩
  rw [eF F,eF (G.addM (msgV n v a))]
  exact wig fun d e=>woq _ _ (congrArg FL.ms e)
 ·have hH:(G.addR (rowV n v a)).Tn:=⟨hF.id,hF.ver,hF.kind,hF.m,⟨by show (F.rs++[_]).length≤1000;rw [List.length_append,List.length_singleton];omega,wrd hF.r.2 tR⟩,hF.t⟩
  refine ⟨a,F,G,rfl,⟨by omega,by omega⟩,by show F.rs.length≤1000;omega,fun a'=>⟨encA F hF,encA _ hH,fin ?_⟩⟩
  rw [eF F,eF (G.addR (rowV n v a))]
  exact wig fun d e=>woq _ _ (congrArg FL.rs e)
 ·let H:FL:=⟨F.id,F.ver,43860+wbe by_ 50,F.kind+1,F.ms,F.rs,F.ts⟩
  have hr:inR .i64 (F.kind+1):=by simp only [inR];omega
  have hH:H.Tn:=⟨hF.id,hF.ver,hr,hF.m,hF.r,hF.t⟩
  refine ⟨hr,encA F hF,encA H hH,fin ?_⟩
  rw [eF F,show flV F.id F.ver (43860+wbe by_ 50) (F.kind+1) F.ms.length (waf (atM F.ms)) F.rs.length (wah (atR F.rs)) F.ts.length (wai (atT F.ts))=H from eF H]
  exact wig fun d e=>by
   have:F.kind=F.kind+1:=congrArg FL.kind e
   omega
end Go.Eng
namespace Go.Eng
open Go.Proofs Go.RowKit Go.ChangeShapes Go.WideShapes Go.ChangeAt
theorem params_Te:Tryz.f7.params=#[23,3,3]:=by kernel_rfl
set_option maxRecDepth 100000 in
theorem wzn (os:Os) (started:os.Started) (H:Type) (enc:TypeId×Value→H):
  ReturnsInHanded {} Tryz.checked os 7 .any (fun w args=>(Go.Proofs.YtgcboligphndhaaGreatDoor.Rows.vintageTellsSpec.pre enc Tryz.prog Tryz.f7 [] false w args∧laidMetH Tryz.prog Go.Proofs.YtgcboligphndhaaGreatDoor.Rows.vintageTellsRow.laid w)∧sizedMet enc Tryz.prog Tryz.f7 (OpenSpec.ofChange Go.Proofs.YtgcboligphndhaaGreatDoor.Rows.vintageTellsSpec) false w args)
   (Go.Proofs.YtgcboligphndhaaGreatDoor.Rows.vintageTellsSpec.post enc Tryz.prog Tryz.f7 false true false false):=by
 refine w0g (C:=Tryz.checked) (X:=fun w _=>laidMetH Tryz.prog Go.Proofs.YtgcboligphndhaaGreatDoor.Rows.vintageTellsRow.laid w) (fun _ _ _ hh h=>h.of_heap hh) ownK started (by kernel_rfl) Tryz.func7
  (ChangeSpec.witness_at (enc:=enc) (C:=Tryz.checked) (os:=os) (X:=fun w _=>laidMetH Tryz.prog Go.Proofs.YtgcboligphndhaaGreatDoor.Rows.vintageTellsRow.laid w) false (ws8 os) #[.slice none 0 0,.int .i64 0,.int .i64 0] 8 rfl (by kernel_rfl) (by kernel_rfl) (by kernel_rfl) (by kernel_rfl) (by kernel_rfl) (wzs os _)) ?_
 intro W base args ds gs before hval0 hW hL hsh
 have hval:∀ (j:Nat) t v,Tryz.f7.params[j]?=some t→args[j]?=some v→Value.okWide Tryz.prog W .any base t v:=hval0
 have hW':=hW
 obtain ⟨p,q,hA0,hV,rfl,hfz,hnd⟩:=hW
 have hA:DataW.TrodAll enc Tryz.prog W 0 (fun _=>true) true Tryz.f7.params.toList args.toList ds p:=hA0
 rw [params_Te] at hA hval
 obtain ⟨v0,vs0,d0,ds0,p0,q0,hargs,rfl,rfl,h0,r0⟩:=trodAll_cons hA
 obtain ⟨v1,vs1,d1,ds1,p1,q1,rfl,rfl,rfl,h1,r1⟩:=trodAll_cons r0
 obtain ⟨v2,vs2,d2,ds2,p2,q2,rfl,rfl,rfl,h2,r2⟩:=trodAll_cons r1
 obtain ⟨rfl,rfl,rfl⟩:=trodAll_nil r2
 obtain rfl:args=#[v0,v1,v2]:=by cases args;simp_all
 obtain ⟨rfl,rfl⟩:=trodVars_none hV
 obtain ⟨a0,len0,cap0,rfl⟩:=okWide_slice undIs (hval 0 23 v0 rfl rfl)
 obtain ⟨z1,rfl⟩:=okWide_int undI (hval 1 3 v1 rfl rfl)
 obtain ⟨z2,rfl⟩:=okWide_int undI (hval 2 3 v2 rfl rfl)
 have k0:=h0
 have k1:=h1
 have k2:=h2
 have lt0:∀ x∈p0,x.block<W.heap.size:=by obtain ⟨m,hm⟩:=k0;exact DataW.trod_lt m _ _ _ hm
 have lt1:∀ x∈p1,x.block<W.heap.size:=by obtain ⟨m,hm⟩:=k1;exact DataW.trod_lt m _ _ _ hm
 have lt2:∀ x∈p2,x.block<W.heap.size:=by obtain ⟨m,hm⟩:=k2;exact DataW.trod_lt m _ _ _ hm
 obtain ⟨m0,hm0⟩:=h0
 obtain ⟨A0,n0,c0,w0,e0,V0⟩:=wwm hm0
 have e0:[Value.slice a0 len0 cap0]=[Value.slice A0 n0 c0]:=e0
 simp only [List.cons.injEq,and_true] at e0
 rw [← e0] at V0
 have lw:=wzt hL hsh
 refine (ADet.top (C:=cx) (tl_ok rfl (fun _ h=>h) n0 w0 z1 z2) lw (gsz_le lw) (cargs:=[.slice a0 len0 cap0,.int .i64 z1,.int .i64 z2]) rfl (fun j x u hx hu=>?_)).mono fun e W' ⟨he,bel⟩=>?_
 ·match j with
  |0=>obtain rfl:=Option.some.inj hx;obtain rfl:=Option.some.inj hu;exact V0
  |1=>obtain rfl:=Option.some.inj hx;obtain rfl:=Option.some.inj hu;exact .int
  |2=>obtain rfl:=Option.some.inj hx;obtain rfl:=Option.some.inj hu;exact .int
  |j+3=>simp at hx
 ·subst he
  exact ⟨_,rfl,_,_,_,[],_,[],hW',trodAll_mk1 (shut_bool (show Tryz.prog.underlying 4=some .bool by kernel_rfl) _),(trodAll_cons_mk (Below.trod wjr (by kernel_rfl) (of_decide_eq_true (by kernel_rfl)) k0 bel lt0) (trodAll_cons_mk (Below.trod wjr (by kernel_rfl) (of_decide_eq_true (by kernel_rfl)) k1 bel lt1) (trodAll_cons_mk (Below.trod wjr (by kernel_rfl) (of_decide_eq_true (by kernel_rfl)) k2 bel lt2) trodAll_mk0))),rfl,bel.frame _,fun h=>by cases h⟩
set_option maxRecDepth 100000 in
theorem over_Te:Go.Proofs.YtgcboligphndhaaGreatDoor.Rows.vintageTellsRow.holds Go.Proofs.YtgcboligphndhaaGreatDoor.Tryz.pinned (OpenSpec.ofChange Go.Proofs.YtgcboligphndhaaGreatDoor.Rows.vintageTellsSpec):=
 OpenClaim.holds_of_wide 7 Tryz.f7 rfl rfl rfl rfl rfl rfl rfl ⟨rfl,rfl,rfl,rfl,rfl⟩ rfl rfl rfl rfl rfl (by kernel_rfl) Tryz.func7 w1g
  inst_Te (by unfold Func.isWrapper;rw [if_neg (of_decide_eq_false (by kernel_rfl))];exact ⟨rfl,rfl⟩)
  (fun os started H enc _=>wzn os started H enc)
end Go.Eng
namespace Go.Proofs.YtgcboligphndhaaGreatDoor
open Go
def harB : Bool × String := (true, "40fb3bd35b79f194dc6e91eb15eecf1db62dc7e1bded180275d4dc3755fccfaf")
set_option maxRecDepth 100000 in
theorem mainB:Tryz.prog.mainIs=some (harB.1,harB.2.toList):=by kernel_rfl
set_option maxRecDepth 100000 in
theorem looksB:true=Tryz.prog.looks []:=by kernel_rfl
end Go.Proofs.YtgcboligphndhaaGreatDoor
namespace Go.Proofs.YtgcboligphndhaaGreatDoor
open Go
set_option maxRecDepth 100000 in
theorem wf_Te:Rows.vintageTellsRow.wfByText (OpenSpec.ofChange Rows.vintageTellsSpec)=true:=by kernel_rfl
set_option maxRecDepth 100000 in
theorem goes_Te:false=Rows.vintageTellsRow.goesBy Tryz.prog:=by kernel_rfl
theorem wy2 : Tryz.prog.funcNamed "priceoffice/priceofficelaw15.VintageTells" = some 7 := by kernel_rfl
theorem wv6:Tryz.prog.wantsStandIn 23=false:=by kernel_rfl
theorem wra:Tryz.prog.wantsStandIn 3=false:=by kernel_rfl
theorem card_Te:Rows.VintageTellsCardSaid:=
 Claim7.holds_tied_plain_at .later [] [.data,.data,.data,.data,.sentinel,.sentinel,.pinned] true harB true
  Go.Eng.over_Te (fun _ h=>by cases h) wf_Te (fun _ h=>by cases h) vintageTells_row_tie rfl ⟨rfl,rfl⟩ mainB rfl
  (fun f fn hf hfn=>by
   obtain rfl:f=7:=Option.some.inj (wy2.symm.trans hf) |>.symm
   obtain rfl:fn=Tryz.f7:=(Option.some.inj (Tryz.func7.symm.trans hfn)).symm
   exact ⟨looksB,fun j t ht=>by
    rw [Go.Eng.params_Te] at ht
    have h3:t=23∨t=3∨t=3:=by
     rcases j with _ | _ | _ | j
     ·exact .inl (by simpa using ht.symm)
     ·exact .inr (.inl (by simpa using ht.symm))
     ·exact .inr (.inr ((by simpa using ht.symm)))
     ·simp at ht
    rcases h3 with rfl | rfl | rfl
    ·exact wv6
    ·exact wra
    ·exact wra⟩)
  goes_Te
end Go.Proofs.YtgcboligphndhaaGreatDoor
