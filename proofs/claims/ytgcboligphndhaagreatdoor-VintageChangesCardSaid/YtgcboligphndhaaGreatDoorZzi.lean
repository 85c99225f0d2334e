/- The tied card of VintageChanges: its statement is 'VintageChangesCardSaid' of the given cards. -/
import Derived.Test.YtgcboligphndhaaGreatDoorZzh
import Derived.Test.YtgcboligphndhaaGreatDoorZp
import Derived.Test.YtgcboligphndhaaGreatDoorCards
import Derived.Test.YtgcboligphndhaaGreatDoorTie
import Derived.SevenTiedAt
namespace Go.Eng
open Go.Proofs Go.RowKit
variable {C:Ctx} [C.Loose]
set_option maxRecDepth 20000
theorem w1k(g:Nat->FL)(n k:Nat)(F:FL)(c j:Nat)(P:Nat->Prop)(R:eR7):wau ⟨te,[],[],0,221,0⟩ (wax Tryz.f28 7) [3,5,6,17,18,19,43,44,45] [3,5,6,17,18,19] [] (wmr g n k F c) P R (wmr g n k F c j)=(letI z10:=List.take 30 F.id;letI z9:=atM F.ms;letI z1:=([.str F.id,.q F.ver,.q F.day,.q F.kind,.view 15 F.ms.length (waf z9),.view 5 F.rs.length (wah (atR F.rs)),.view 5 F.ts.length (wag (atT F.ts))]:List AV);letI z0:=(atM F.ms (j:Int).toNat);letI z8:=(z0.dev.length:Int);letI z7:=(z0.d.p.length:Int);letI z6:=(z0.v.p.length:Int);letI z5:=(z0.d.o.length:Int);letI z4:=(z0.v.o.length:Int);letI z3:=(z0.d.dev.length:Int);letI z2:=(z0.v.rep.length:Int);wac (decide ((j:Int)<(c:Int))) (((0:Int)<=(j:Int)/\(j:Int)<(c:Int)/\15=15)/\((0:Int)<=min z8 (30:Int)/\min z8 (30:Int)<=z8)/\((0:Int)<=min z4 (30:Int)/\min z4 (30:Int)<=z4)/\((0:Int)<=min z5 (30:Int)/\min z5 (30:Int)<=z5)/\((0:Int)<=min z6 (30:Int)/\min z6 (30:Int)<=z6)/\((0:Int)<=min z7 (30:Int)/\min z7 (30:Int)<=z7)/\((0:Int)<=min z2 (30:Int)/\min z2 (30:Int)<=z2)/\((0:Int)<=min z3 (30:Int)/\min z3 (30:Int)<=z3)/\(15<=16777216/\15=15/\1<=9223372036854775807)/\((1<=1/\15=15)/\j<=j/\15=15/\40=40/\15=15/\j+1<=9223372036854775807/\(j+1) * TI.bytes wez<=140737488355328)/\inR .i64 ((j:Int)+1)/\∃(i':Nat),(TEq [(3,.own 0 k),(5,.ptr 1 0),(6,.ptr 2 0),(17,.view 7 n (waa g)),(18,.q (n:Int)),(19,.q (k:Int)),(43,.view 15 c (waf z9)),(44,.q (c:Int)),(45,.q ((j:Int)+1))] [(3,.own 0 k),(5,.ptr 1 0),(6,.ptr 2 0),(17,.view 7 n (waa g)),(18,.q (n:Int)),(19,.q (k:Int)),(43,.view 15 c (waf z9)),(44,.q (c:Int)),(45,.q (i':Int))]/\wae [(0,.row 49 7 k (waa (cutG g)) false),(1,.cells z1 49),(2,.cells [.str z10,.q F.ver,.q F.day,.q F.kind,.own 3 (j+1),.nil,.nil] 49),(3,.row 40 15 (j+1) (apF j (waf (cutM z9)) (wap (TI.sz wez) (.str (List.take (min z8 (30:Int)).toNat z0.dev):: .q z0.seq:: .q z0.kind:: .str (List.take (min z4 (30:Int)).toNat z0.v.o):: .str (List.take (min z6 (30:Int)).toNat z0.v.p):: .q z0.v.per:: .q z0.v.day:: .q z0.v.st:: .q z0.v.pr:: .str (List.take (min z2 (30:Int)).toNat z0.v.rep):: .str (List.take (min z5 (30:Int)).toNat z0.d.o):: .str (List.take (min z7 (30:Int)).toNat z0.d.p):: .q z0.d.per:: .str (List.take (min z3 (30:Int)).toNat z0.d.dev):: .q z0.d.num::List.append [] (List.flatten (List.replicate (nat_lit 0) [.str ([]),.q 0,.q 0,.str ([]),.str ([]),.q 0,.q 0,.q 0,.q 0,.str ([]),.str ([]),.str ([]),.q 0,.str ([]),.q 0]))))) false)] [(0,.row 49 7 k (waa (cutG g)) false),(1,.cells z1 49),(2,.cells [.str z10,.q F.ver,.q F.day,.q F.kind,.own 3 i',.nil,.nil] 49),(3,.row 40 15 i' (waf (cutM z9)) false)])/\P i') ((∀(i:Nat),i<k->true=true)/\(∀(i:Nat),i<j->true=true)/\∃(O':oL7),wae [(0,.row 49 7 k (waa (cutG g)) false),(1,.cells z1 49),(2,.cells [.str z10,.q F.ver,.q F.day,.q F.kind,.own 3 j,.nil,.nil] 49),(3,.row 40 15 j (waf (cutM z9)) false)] O'/\R (.exit 2) (St.mk [(3,.own 0 k),(5,.ptr 1 0),(6,.ptr 2 0),(17,.view 7 n (waa g)),(18,.q (n:Int)),(19,.q (k:Int))] O' 4 []))):=by kernel_rfl
theorem w1j(g:Nat->FL)(n k:Nat)(F:FL)(c j:Nat)(P:Nat->Prop)(R:eR7):wau ⟨te,[],[],0,221,0⟩ (wax Tryz.f28 15) [3,5,6,17,18,19,136,137,138] [3,5,6,17,18,19] [] (wmq g n k F c) P R (wmq g n k F c j)=(letI z7:=List.take 30 F.id;letI z6:=waf (atM (cutF F).ms);letI z5:=atR F.rs;letI z2:=(cutF F).ms.length;letI z1:=(atR F.rs (j:Int).toNat);letI z4:=(z1.p.length:Int);letI z3:=(z1.o.length:Int);letI z0:=([.str F.id,.q F.ver,.q F.day,.q F.kind,.view 15 F.ms.length (waf (atM F.ms)),.view 5 F.rs.length (wah z5),.view 5 F.ts.length (wag (atT F.ts))]:List AV);wac (decide ((j:Int)<(c:Int))) (((0:Int)<=(j:Int)/\(j:Int)<(c:Int)/\5=5)/\((0:Int)<=min z3 (30:Int)/\min z3 (30:Int)<=z3)/\((0:Int)<=min z4 (30:Int)/\min z4 (30:Int)<=z4)/\(5<=16777216/\5=5/\1<=9223372036854775807)/\((1<=1/\5=5)/\j<=j/\5=5/\61=61/\5=5/\j+1<=9223372036854775807/\(j+1) * TI.bytes wc9<=140737488355328)/\inR .i64 ((j:Int)+1)/\∃(i':Nat),(TEq [(3,.own 0 k),(5,.ptr 1 0),(6,.ptr 2 0),(17,.view 7 n (waa g)),(18,.q (n:Int)),(19,.q (k:Int)),(136,.view 5 c (wah z5)),(137,.q (c:Int)),(138,.q ((j:Int)+1))] [(3,.own 0 k),(5,.ptr 1 0),(6,.ptr 2 0),(17,.view 7 n (waa g)),(18,.q (n:Int)),(19,.q (k:Int)),(136,.view 5 c (wah z5)),(137,.q (c:Int)),(138,.q (i':Int))]/\wae [(0,.row 49 7 k (waa (cutG g)) false),(1,.cells z0 49),(2,.cells [.str z7,.q F.ver,.q F.day,.q F.kind,.own 3 z2,.own 4 (j+1),.nil] 49),(3,.row 40 15 z2 z6 false),(4,.row 61 5 (j+1) (apF j (wah (cutR z5)) (wap (TI.sz wc9) (.str (List.take (min z3 (30:Int)).toNat z1.o):: .str (List.take (min z4 (30:Int)).toNat z1.p):: .q z1.per:: .q z1.u:: .q z1.tv::List.append [] wff))) false)] [(0,.row 49 7 k (waa (cutG g)) false),(1,.cells z0 49),(2,.cells [.str z7,.q F.ver,.q F.day,.q F.kind,.own 3 z2,.own 4 i',.nil] 49),(3,.row 40 15 z2 z6 false),(4,.row 61 5 i' (wah (cutR z5)) false)])/\P i') ((∀(i:Nat),i<k->true=true)/\(∀(i:Nat),i<(cutF F).ms.length->true=true)/\(∀(i:Nat),i<j->true=true)/\∃(O':oL7),wae [(0,.row 49 7 k (waa (cutG g)) false),(1,.cells z0 49),(2,.cells [.str z7,.q F.ver,.q F.day,.q F.kind,.own 3 z2,.own 4 j,.nil] 49),(3,.row 40 15 z2 z6 false),(4,.row 61 5 j (wah (cutR z5)) false)] O'/\R (.exit 4) (St.mk [(3,.own 0 k),(5,.ptr 1 0),(6,.ptr 2 0),(17,.view 7 n (waa g)),(18,.q (n:Int)),(19,.q (k:Int))] O' 5 []))):=by kernel_rfl
theorem w1h(g:Nat->FL)(n k:Nat)(F:FL)(c j:Nat)(P:Nat->Prop)(R:eR7):wau ⟨te,[],[(1024,wpa g n k F c j)],0,221,0⟩ (wax Tryz.f28 21) [3,6,17,18,19,171,172,173] [3,6,17,18,19] [] (whu g n k F c) P R (whu g n k F c j)=(letI z16:=waa (cutG g);letI z15:=wag (atT F.ts);letI z14:=List.take 30 F.id;letI z13:=(wca (atT F.ts j)).bs;letI z11:=wag (cutT (atT F.ts));letI z10:=wah (atR (cutF F).rs);letI z9:=waf (atM (cutF F).ms);letI z5:=(cutF F).rs.length;letI z4:=(cutF F).ms.length;letI z6:=([.str z14,.q F.ver,.q F.day,.q F.kind,.own 2 z4,.own 3 z5,.own 4 (j+1)]:List AV);letI z3:=([(3,.own 0 k),(6,.ptr 1 0),(17,.view 7 n (waa g)),(18,.q (n:Int)),(19,.q (k:Int)),(171,.view 5 c z15),(172,.q (c:Int)),(173,.q (j:Int))]:tL7);letI z1:=([(0,.row 49 7 k z16 false),(1,.cells z6 49),(2,.row 40 15 z4 z9 false),(3,.row 61 5 z5 z10 false),(4,.row 97 5 (j+1) z11 false)]:oL7);letI z0:=(atT F.ts (j:Int).toNat);letI z8:=(z0.p.length:Int);letI z7:=(z0.o.length:Int);letI z2:=(z0.bs.length:Int);letI z12:=(min z2 (9:Int));wac (decide ((j:Int)<(c:Int))) (((0:Int)<=(j:Int)/\(j:Int)<(c:Int)/\5=5)/\((0:Int)<=min z7 (30:Int)/\min z7 (30:Int)<=z7)/\((0:Int)<=min z8 (30:Int)/\min z8 (30:Int)<=z8)/\(0<=16777216/\2=2/\0<=9223372036854775807)/\((0:Int)<=min z2 (9:Int)/\min z2 (9:Int)<=z2)/\(2=2/\0<=0/\2=2/\115=115/\2=2/\0+z12.toNat<=9223372036854775807/\(0+z12.toNat) * TI.bytes wgd<=140737488355328)/\(5<=16777216/\5=5/\1<=9223372036854775807)/\((1<=1/\5=5)/\j<=j/\5=5/\97=97/\5=5/\j+1<=9223372036854775807/\(j+1) * TI.bytes wey<=140737488355328)/\(∀(i:Nat),i<0+z12.toNat->[AV.q (atB z13 i).up,.q (atB z13 i).pr]=[.q (atB z0.bs (i - 0)).up,.q (atB z0.bs (i - 0)).pr])/\(∀(i:Nat),i<0+z12.toNat->true=true)/\(TEq z3 z3/\wae [(0,.row 49 7 k z16 false),(1,.cells z6 49),(2,.row 40 15 z4 z9 false),(3,.row 61 5 z5 z10 false),(4,.row 97 5 (j+1) (λ(i:Nat)=>List.map (frz 503 2 (0+z12.toNat) (was (atB z13))) (apF j z11 (wap (TI.sz wey) (.str (List.take (min z7 (30:Int)).toNat z0.o):: .str (List.take (min z8 (30:Int)).toNat z0.p):: .q z0.per:: .q z0.st:: .own 503 (0+z12.toNat)::List.append [] (List.flatten (List.replicate (nat_lit 0) [.str ([]),.str ([]),.q 0,.q 0,.nil])))) i)) false)] z1)/\j<=100/\∃(i':Nat),(TEq [(3,.own 0 k),(6,.ptr 1 0),(17,.view 7 n (waa g)),(18,.q (n:Int)),(19,.q (k:Int)),(171,.view 5 c z15),(172,.q (c:Int)),(173,.q (↑(j+1):Int))] [(3,.own 0 k),(6,.ptr 1 0),(17,.view 7 n (waa g)),(18,.q (n:Int)),(19,.q (k:Int)),(171,.view 5 c z15),(172,.q (c:Int)),(173,.q (i':Int))]/\wae z1 [(0,.row 49 7 k z16 false),(1,.cells [.str z14,.q F.ver,.q F.day,.q F.kind,.own 2 z4,.own 3 z5,.own 4 i'] 49),(2,.row 40 15 z4 z9 false),(3,.row 61 5 z5 z10 false),(4,.row 97 5 i' z11 false)])/\P i') ((∀(i:Nat),i<k->true=true)/\(∀(i:Nat),i<(cutF F).ms.length->true=true)/\(∀(i:Nat),i<(cutF F).rs.length->true=true)/\(∀(i:Nat),i<j->true=true)/\∃(O':oL7),wae [(0,.row 49 7 k z16 false),(1,.cells [.str z14,.q F.ver,.q F.day,.q F.kind,.own 2 z4,.own 3 z5,.own 4 j] 49),(2,.row 40 15 z4 z9 false),(3,.row 61 5 z5 z10 false),(4,.row 97 5 j z11 false)] O'/\R (.exit 6) (St.mk [(3,.own 0 k),(6,.ptr 1 0),(17,.view 7 n (waa g)),(18,.q (n:Int)),(19,.q (k:Int))] O' 5 []))):=by kernel_rfl
theorem nf_rw24(g:Nat->FL)(n k:Nat)(F:FL)(c j:Nat)(Q:eR7):regP ⟨te,[],[],0,221,0⟩ (regC Tryz.f28 24) [3,6,17,18,19,171,172,173] Q (ws6 g n k F c j)=(letI z1:=(cutF F).rs;letI z0:=(cutF F).ms;inR .i64 ((j:Int)+1)/\(∀(i:Nat),i<k->true=true)/\(∀(i:Nat),i<z0.length->true=true)/\(∀(i:Nat),i<z1.length->true=true)/\(∀(i:Nat),i<j+1->true=true)/\∃(O':oL7),wae [(0,.row 49 7 k (waa (cutG g)) false),(1,.cells [.str (List.take 30 F.id),.q F.ver,.q F.day,.q F.kind,.own 2 z0.length,.own 3 z1.length,.own 4 (j+1)] 49),(2,.row 40 15 z0.length (waf (atM z0)) false),(3,.row 61 5 z1.length (wah (atR z1)) false),(4,.row 97 5 (j+1) (wag (cutT (atT F.ts))) false)] O'/\Q .normal (St.mk [(3,.own 0 k),(6,.ptr 1 0),(17,.view 7 n (waa g)),(18,.q (n:Int)),(19,.q (k:Int)),(171,.view 5 c (wag (atT F.ts))),(172,.q (c:Int)),(173,.q ((j:Int)+1))] O' 5 [])):=by kernel_rfl
theorem nf_rw25(g:Nat->FL)(n k:Nat)(F:FL)(Q:eR7):regP ⟨te,[],[],0,221,0⟩ (regC Tryz.f28 25) [3,17,18,19] Q (wms g n k F)=(letI z0:=wap (TI.sz wbi) (.str (cutF F).id:: .q (cutF F).ver:: .q (cutF F).day:: .q (cutF F).kind:: .view 15 (cutF F).ms.length (waf (atM (cutF F).ms)):: .view 5 (cutF F).rs.length (wah (atR (cutF F).rs)):: .view 5 (cutF F).ts.length (wag (atT (cutF F).ts))::List.append [] wcp);(7<=16777216/\7=7/\1<=9223372036854775807)/\((1<=1/\7=7)/\k<=k/\7=7/\49=49/\7=7/\k+1<=9223372036854775807/\(k+1) * TI.bytes wbi<=140737488355328)/\(∀(i:Nat),i<k+1->nrefL (apF k (waa (cutG g)) z0 i)=true)/\∃(O':oL7),wae [(0,.row 49 7 (k+1) (apF k (waa (cutG g)) z0) false)] O'/\Q .normal (St.mk [(3,.own 0 (k+1)),(17,.view 7 n (waa g)),(18,.q (n:Int)),(19,.q (k:Int))] O' 1 [])):=by kernel_rfl
theorem w1q(g:Nat->FL)(n k:Nat)(P:Nat->Prop)(R:eR7):wau ⟨te,[],[(7,wo8 g n k (g k) (min (g k).ms.length 3)),(15,wo7 g n k (g k) (min (g k).rs.length 3)),(21,wo5 g n k (g k) (min (g k).ts.length 3)),(1025,wo9 g n k (g k))],0,221,0⟩ (wax Tryz.f28 3) [3,17,18,19] [3] [] (wmv g n) P R (wmv g n k)=(letI z19:=atT (g k).ts;letI z18:=atR (g k).rs;letI z17:=(g k).kind;letI z16:=wah (atR (cutF (g k)).rs);letI z15:=List.take 30 (g k).id;letI z13:=(g k).ms.length;letI z12:=([(3,.own 0 k),(6,.ptr 1 0),(17,.view 7 n (waa g)),(18,.q (n:Int)),(19,.q (k:Int))]:tL7);letI z11:=waa (cutG g);letI z10:=waf (atM (cutF (g k)).ms);letI z9:=(cutF (g k)).rs.length;letI z5:=(g k).ts.length;letI z21:=(min (z5:Int) (3:Int)).toNat;letI z4:=(g k).rs.length;letI z20:=(min (z4:Int) (3:Int)).toNat;letI z3:=(cutF (g k)).ms.length;letI z7:=([.str z15,.q (g k).ver,.q (g k).day,.q z17,.own 3 z3,.own 4 0,.nil]:List AV);letI z6:=([.str z15,.q (g k).ver,.q (g k).day,.q z17,.own 2 z3,.own 3 z9,.own 4 0]:List AV);letI z2:=([(0,.row 49 7 k z11 false),(1,.cells [.str z15,.q (g k).ver,.q (g k).day,.q z17,.own 2 z3,.own 3 z9,.own 4 (cutF (g k)).ts.length] 49),(2,.row 40 15 z3 z10 false),(3,.row 61 5 z9 z16 false),(4,.row 97 5 (cutF (g k)).ts.length (wag (atT (cutF (g k)).ts)) false)]:oL7);letI z1:=(g (k:Int).toNat);letI z14:=(z1.id.length:Int);letI z8:=(z1.ms.length:Int);letI z0:=([.str (g k).id,.q (g k).ver,.q (g k).day,.q z17,.view 15 z13 (waf (atM (g k).ms)),.view 5 z4 (wah z18),.view 5 z5 (wag z19)]:List AV);wac (decide ((k:Int)<(n:Int))) (((0:Int)<=(k:Int)/\(k:Int)<(n:Int)/\7=7)/\((0:Int)<=min z14 (30:Int)/\min z14 (30:Int)<=z14)/\((0:Int)<=min z8 (3:Int)/\min z8 (3:Int)<=z8)/\(TEq [(3,.own 0 k),(5,.ptr 1 0),(6,.ptr 2 0),(17,.view 7 n (waa g)),(18,.q (n:Int)),(19,.q (k:Int)),(43,.view 15 (min z8 (3:Int)).toNat (waf (atM z1.ms))),(44,.q (↑(min z8 (3:Int)).toNat:Int)),(45,.q 0)] [(3,.own 0 k),(5,.ptr 1 0),(6,.ptr 2 0),(17,.view 7 n (waa g)),(18,.q (n:Int)),(19,.q (k:Int)),(43,.view 15 (min z13 3) (waf (atM (g k).ms))),(44,.q (↑(min z13 3):Int)),(45,.q (↑0:Int))]/\wae [(0,.row 49 7 k z11 false),(1,.cells [.str z1.id,.q z1.ver,.q z1.day,.q z1.kind,.view 15 z1.ms.length (waf (atM z1.ms)),.view 5 z1.rs.length (wah (atR z1.rs)),.view 5 z1.ts.length (wag (atT z1.ts))] 49),(2,.cells [.str (List.take (min z14 (30:Int)).toNat z1.id),.q z1.ver,.q z1.day,.q z1.kind,.own 3 0,.nil,.nil] 49),(3,.row 40 15 0 (λ(_x:Nat)=>[]) false)] [(0,.row 49 7 k z11 false),(1,.cells z0 49),(2,.cells [.str z15,.q (g k).ver,.q (g k).day,.q z17,.own 3 0,.nil,.nil] 49),(3,.row 40 15 0 (waf (cutM (atM (g k).ms))) false)])/\min z13 3=min z13 3/\((0:Int)<=min (z4:Int) (3:Int)/\min (z4:Int) (3:Int)<=(z4:Int))/\(TEq [(3,.own 0 k),(5,.ptr 1 0),(6,.ptr 2 0),(17,.view 7 n (waa g)),(18,.q (n:Int)),(19,.q (k:Int)),(136,.view 5 z20 (wah z18)),(137,.q (z20:Int)),(138,.q 0)] [(3,.own 0 k),(5,.ptr 1 0),(6,.ptr 2 0),(17,.view 7 n (waa g)),(18,.q (n:Int)),(19,.q (k:Int)),(136,.view 5 (min z4 3) (wah z18)),(137,.q (↑(min z4 3):Int)),(138,.q (↑0:Int))]/\wae [(0,.row 49 7 k z11 false),(1,.cells z0 49),(2,.cells z7 49),(3,.row 40 15 z3 z10 false),(4,.row 61 5 0 (λ(_x:Nat)=>[]) false)] [(0,.row 49 7 k z11 false),(1,.cells z0 49),(2,.cells z7 49),(3,.row 40 15 z3 z10 false),(4,.row 61 5 0 (wah (cutR z18)) false)])/\min z4 3=min z4 3/\((0:Int)<=min (z5:Int) (3:Int)/\min (z5:Int) (3:Int)<=(z5:Int))/\(TEq [(3,.own 0 k),(6,.ptr 1 0),(17,.view 7 n (waa g)),(18,.q (n:Int)),(19,.q (k:Int)),(171,.view 5 z21 (wag z19)),(172,.q (z21:Int)),(173,.q 0)] [(3,.own 0 k),(6,.ptr 1 0),(17,.view 7 n (waa g)),(18,.q (n:Int)),(19,.q (k:Int)),(171,.view 5 (min z5 3) (wag z19)),(172,.q (↑(min z5 3):Int)),(173,.q (↑0:Int))]/\wae [(0,.row 49 7 k z11 false),(1,.cells z6 49),(2,.row 40 15 z3 z10 false),(3,.row 61 5 z9 z16 false),(4,.row 97 5 0 (λ(_x:Nat)=>[]) false)] [(0,.row 49 7 k z11 false),(1,.cells z6 49),(2,.row 40 15 z3 z10 false),(3,.row 61 5 z9 z16 false),(4,.row 97 5 0 (wag (cutT z19)) false)])/\min z5 3=min z5 3/\(TEq z12 z12/\wae z2 z2)/\k<=100/\g k=g k/\inR .i64 ((k:Int)+1)/\∃(i':Nat),(TEq [(3,.own 0 (k+1)),(17,.view 7 n (waa g)),(18,.q (n:Int)),(19,.q ((k:Int)+1))] [(3,.own 0 i'),(17,.view 7 n (waa g)),(18,.q (n:Int)),(19,.q (i':Int))]/\wae [(0,.row 49 7 (k+1) z11 false)] [(0,.row 49 7 i' z11 false)])/\P i') ((∀(i:Nat),i<k->true=true)/\∃(O':oL7),wae [(0,.row 49 7 k z11 false)] O'/\R (.exit 0) (St.mk [(3,.own 0 k)] O' 1 []))):=by kernel_rfl
theorem w1n(g:Nat->FL)(n:Nat)(R:oR7):wpFn te [] [(3,wpd g (min n 6))] 0 Tryz.f28 [.view 7 n (waa g)] [] R=(((0:Int)<=min (n:Int) (6:Int)/\min (n:Int) (6:Int)<=(n:Int))/\(TEq [(3,.own 0 0),(17,.view 7 (min (n:Int) (6:Int)).toNat (waa g)),(18,.q (↑(min (n:Int) (6:Int)).toNat:Int)),(19,.q 0)] [(3,.own 0 0),(17,.view 7 (min n 6) (waa g)),(18,.q (↑(min n 6):Int)),(19,.q (↑0:Int))]/\wae [(0,.row 49 7 0 (λ(_x:Nat)=>[]) false)] [(0,.row 49 7 0 (waa (cutG g)) false)])/\min n 6<=6/\(∀(i:Nat),i<min n 6->true=true)/\∃(O':oL7),wae [(0,.row 49 7 (min n 6) (waa (cutG g)) false)] O'/\R (.own 0 (min n 6)) O'):=by kernel_rfl
theorem cut_ms(F:FL):(cutF F).ms.length=min F.ms.length 3:=by
 show ((F.ms.take 3).map wgs).length=_;rw[List.length_map,List.length_take];omega
theorem cut_rs(F:FL):(cutF F).rs.length=min F.rs.length 3:=by
 show ((F.rs.take 3).map whl).length=_;rw[List.length_map,List.length_take];omega
theorem cut_ts(F:FL):(cutF F).ts.length=min F.ts.length 3:=by
 show ((F.ts.take 3).map wca).length=_;rw[List.length_map,List.length_take];omega
theorem cut_m(F:FL){i:Nat}(h:i<(cutF F).ms.length):waf (cutM (atM F.ms)) i=waf (atM (cutF F).ms) i:=by
 rw[cut_ms] at h;have e:atM (cutF F).ms i=wgs (atM F.ms i):=wsk _ _ wgs F.ms 3 i (by omega);show mgC (wgs (atM F.ms i))=mgC (atM (cutF F).ms i);rw[e]
theorem cut_r(F:FL){i:Nat}(h:i<(cutF F).rs.length):wah (cutR (atR F.rs)) i=wah (atR (cutF F).rs) i:=by
 rw[cut_rs] at h;have e:atR (cutF F).rs i=whl (atR F.rs i):=wsk _ _ whl F.rs 3 i (by omega);unfold wah;rw[e];rfl
theorem cut_t(F:FL){i:Nat}(h:i<(cutF F).ts.length):wag (cutT (atT F.ts)) i=wag (atT (cutF F).ts) i:=by
 rw[cut_ts] at h;have e:atT (cutF F).ts i=wca (atT F.ts i):=wsk _ _ wca F.ts 3 i (by omega);unfold wag;rw[e];rfl
theorem wzl(hP:C.P=Tryz.prog)(g:Nat->FL)(n k:Nat)(F:FL)(c:Nat):waj C 0 221 (wal Tryz.f28 7) (wo8 g n k F c):=by
 have _:C.Loose:=inferInstance;rintro st Q ⟨h0,hc,hQ⟩;refine AWP.ownNilP 6 4 40 15 ?_;refine waj.mk (prg hP) [] 0 .nil [3,5,6,17,18,19,43,44,45] [3,5,6,17,18,19] [] (wmr g n k F c) (λj=>j<=c) (λj=>c - j) 0 (zL7 _) h0 (λj hj=>?_) (λi=>⟨λ_ _=>rfl,λ_ _=>rfl,trivial⟩);rw[w1k,tN7,wdj,wdj,wdj,wdj,wdj,wdj,wdj];refine wak (λh1=>⟨⟨by omega,by omega,rfl⟩,⟨by omega,by omega⟩,⟨by omega,by omega⟩,⟨by omega,by omega⟩,⟨by omega,by omega⟩,⟨by omega,by omega⟩,⟨by omega,by omega⟩,⟨by omega,by omega⟩,⟨by omega,rfl,by omega⟩,⟨⟨lR7 _,rfl⟩,lR7 _,rfl,rfl,rfl,by omega,?_⟩,by simp only[inR];omega,j+1,⟨rfl,rQ7,rfl,rfl,⟨rfl,rfl,rfl,rfl,rfl,λi hi=>?_⟩,trivial⟩,by omega,by omega⟩) (λh1=>?_)
 ·show (j+1) * 176<=_;omega
 ·unfold apF
  by_cases h:i<j
  ·rw[if_pos h]
  ·have:i=j:=by omega
   rw[if_neg h,this,Nat.sub_self];rfl
 ·have:j=(cutF F).ms.length:=by rw[cut_ms];omega
  subst this;refine⟨λ_ _=>rfl,λ_ _=>rfl,_,?_,hQ⟩;exact⟨rQ7,rfl,rfl,⟨rfl,rfl,rfl,rfl,rfl,λi hi=>cut_m F hi⟩,trivial⟩
theorem wzk(hP:C.P=Tryz.prog)(g:Nat->FL)(n k:Nat)(F:FL)(c:Nat):waj C 0 221 (wal Tryz.f28 15) (wo7 g n k F c):=by
 have _:C.Loose:=inferInstance;rintro st Q ⟨h0,hc,hQ⟩;refine AWP.ownNilP 6 5 61 5 ?_;refine waj.mk (prg hP) [] 0 .nil [3,5,6,17,18,19,136,137,138] [3,5,6,17,18,19] [] (wmq g n k F c) (λj=>j<=c) (λj=>c - j) 0 (zL7 _) h0 (λj hj=>?_) (λi=>⟨λ_ _=>rfl,λ_ _=>rfl,λ_ _=>rfl,trivial⟩);rw[w1j,tN7,wdj,wdj];refine wak (λh1=>⟨⟨by omega,by omega,rfl⟩,⟨by omega,by omega⟩,⟨by omega,by omega⟩,⟨by omega,rfl,by omega⟩,⟨⟨lR7 _,rfl⟩,lR7 _,rfl,rfl,rfl,by omega,?_⟩,by simp only[inR];omega,j+1,⟨rfl,rQ7,rfl,rfl,rQ7,⟨rfl,rfl,rfl,rfl,rfl,λi hi=>?_⟩,trivial⟩,by omega,by omega⟩) (λh1=>?_)
 ·show (j+1) * 56<=_;omega
 ·unfold apF
  by_cases h:i<j
  ·rw[if_pos h]
  ·have:i=j:=by omega
   rw[if_neg h,this,Nat.sub_self];rfl
 ·have:j=(cutF F).rs.length:=by rw[cut_rs];omega
  subst this;refine⟨λ_ _=>rfl,λ_ _=>rfl,λ_ _=>rfl,_,?_,hQ⟩;exact⟨rQ7,rfl,rfl,rQ7,⟨rfl,rfl,rfl,rfl,rfl,λi hi=>cut_r F hi⟩,trivial⟩
theorem rw24_ok(hP:C.P=Tryz.prog)(g:Nat->FL)(n k:Nat)(F:FL)(c j:Nat):waj C 0 221 (regC Tryz.f28 24) (wpa g n k F c j):=by
 have _:C.Loose:=inferInstance;rintro st Q ⟨h1,h2,h3,hj,hQ⟩;refine AWP.rowFn 503 _ h1 (AWP.frzX 503 [567] h2 ?_);refine waj.reg (S:=ws6 g n k F c j) (prg hP) [] 0 .nil [3,6,17,18,19,171,172,173] [3,6,17,18,19,171,172,173] h3 ?_ ⟨λ_ _=>rfl,λ_ _=>rfl,λ_ _=>rfl,λ_ _=>rfl,trivial⟩;rw[nf_rw24];exact⟨by simp only[inR];omega,λ_ _=>rfl,λ_ _=>rfl,λ_ _=>rfl,λ_ _=>rfl,_,wam _,hQ⟩
theorem cut_b(t:RT){i:Nat}(h:i<(wca t).bs.length):atB (wca t).bs i=atB t.bs i:=by
 have h:i<(t.bs.take 9).length:=h;rw[List.length_take] at h;show (t.bs.take 9).getD i _=t.bs.getD i _;have h1:i<t.bs.length:=by omega
 have h2:i<9:=by omega
 simp[List.getD_eq_getElem?_getD,h1,h2]
theorem wzi(hP:C.P=Tryz.prog)(g:Nat->FL)(n k:Nat)(F:FL)(c:Nat):waj C 0 221 (wal Tryz.f28 21) (wo5 g n k F c):=by
 rintro st Q ⟨h0,hc,hQ⟩;refine AWP.ownNilP 6 6 97 5 ?_;refine waj.mkI (prg hP) [] (λj=>[(1024,wpa g n k F c j)]) 0 .nil (λj=>[(regC Tryz.f28 24,wpa g n k F c j)]) (λj=>by kernel_rfl) (λj=>⟨rw24_ok hP g n k F c j,trivial⟩) [3,6,17,18,19,171,172,173] [3,6,17,18,19] [] (whu g n k F c) (λj=>j<=c) (λj=>c - j) 0 (zL7 _) h0 (λj hj=>?_) (λi=>⟨λ_ _=>rfl,λ_ _=>rfl,λ_ _=>rfl,λ_ _=>rfl,trivial⟩);rw[w1h,tN7,wdj,wdj];have eb:0+Int.toNat (min (((atT F.ts j).bs.length:Nat):Int) 9)=(wca (atT F.ts j)).bs.length:=by
  show _=((atT F.ts j).bs.take 9).length;rw[List.length_take];omega
 rw[eb];have lb:(wca (atT F.ts j)).bs.length<=9:=by
  show ((atT F.ts j).bs.take 9).length<=9;rw[List.length_take];omega
 refine wak (λh1=>⟨⟨by omega,by omega,rfl⟩,⟨by omega,by omega⟩,⟨by omega,by omega⟩,⟨by omega,rfl,by omega⟩,⟨by omega,by omega⟩,⟨rfl,lR7 _,rfl,rfl,rfl,by omega,?_⟩,⟨by omega,rfl,by omega⟩,⟨⟨lR7 _,rfl⟩,lR7 _,rfl,rfl,rfl,by omega,?_⟩,λi hi=>?_,λ_ _=>rfl,⟨rfl,rQ7,rfl,rQ7,rQ7,⟨rfl,rfl,rfl,rfl,rfl,λi hi=>?_⟩,trivial⟩,by omega,j+1,⟨rfl,rQ7,rfl,rQ7,rQ7,rQ7,trivial⟩,by omega,by omega⟩) (λh1=>?_)
 ·show _ * 16<=_;omega
 ·show (j+1) * 72<=_;omega
 ·rw[Nat.sub_zero,cut_b _ hi]
 ·have bb:Nat.ble (wca (atT F.ts j)).bs.length (wca (atT F.ts j)).bs.length=true:=Nat.ble_eq_true_of_le (lR7 _);show List.map _ (apF j _ _ i)=_;unfold apF
  by_cases h:i<j
  ·rw[if_pos h];rfl
  ·have:i=j:=by omega
   subst this;rw[if_neg h,Nat.sub_self];show [AV.str _,.str _,.q _,.q _,frz 503 2 (wca (atT F.ts i)).bs.length (was (atB (wca (atT F.ts i)).bs)) (.own 503 (wca (atT F.ts i)).bs.length)]=_;simp only[frz,bb];rfl
 ·have:j=(cutF F).ts.length:=by rw[cut_ts];omega
  subst this;refine⟨λ_ _=>rfl,λ_ _=>rfl,λ_ _=>rfl,λ_ _=>rfl,_,?_,hQ⟩;exact⟨rQ7,rfl,rQ7,rQ7,⟨rfl,rfl,rfl,rfl,rfl,λi hi=>cut_t F hi⟩,trivial⟩
theorem rwb_frz(g:Nat->FL)(n k:Nat)(F:FL):frzX 2 [] (frzX 3 [] (frzX 4 [] (wf2 g n k F)))=⟨(wms g n k F).T,(wms g n k F).O,5,[]⟩:=by
 have b1:Nat.ble (cutF F).ms.length (cutF F).ms.length=true:=Nat.ble_eq_true_of_le (lR7 _);have b2:Nat.ble (cutF F).rs.length (cutF F).rs.length=true:=Nat.ble_eq_true_of_le (lR7 _);have b3:Nat.ble (cutF F).ts.length (cutF F).ts.length=true:=Nat.ble_eq_true_of_le (lR7 _);have e4:frzX 4 [] (wf2 g n k F)=⟨(wf2 g n k F).T,[(0,.row 49 7 k (waa (cutG g)) false),
  (1,.cells [.str (F.id.take 30),.q F.ver,.q F.day,.q F.kind,.own 2 (cutF F).ms.length,.own 3 (cutF F).rs.length,.view 5 (cutF F).ts.length (wag (atT (cutF F).ts))] 49),
  (2,.row 40 15 (cutF F).ms.length (waf (atM (cutF F).ms)) false),(3,.row 61 5 (cutF F).rs.length (wah (atR (cutF F).rs)) false)],5,[]⟩:=by
   have:frzX 4 [] (wf2 g n k F)=⟨(wf2 g n k F).T,[(0,.row 49 7 k (waa (cutG g)) false),
    (1,.cells [.str (F.id.take 30),.q F.ver,.q F.day,.q F.kind,.own 2 (cutF F).ms.length,.own 3 (cutF F).rs.length,frz 4 5 (cutF F).ts.length (wag (atT (cutF F).ts)) (.own 4 (cutF F).ts.length)] 49),
    (2,.row 40 15 (cutF F).ms.length (waf (atM (cutF F).ms)) false),(3,.row 61 5 (cutF F).rs.length (wah (atR (cutF F).rs)) false)],5,[]⟩:=rfl
   rw[this];simp only[frz,b3];rfl
 rw[e4];have e3:frzX 3 [] ⟨(wf2 g n k F).T,[(0,.row 49 7 k (waa (cutG g)) false),
  (1,.cells [.str (F.id.take 30),.q F.ver,.q F.day,.q F.kind,.own 2 (cutF F).ms.length,.own 3 (cutF F).rs.length,.view 5 (cutF F).ts.length (wag (atT (cutF F).ts))] 49),
  (2,.row 40 15 (cutF F).ms.length (waf (atM (cutF F).ms)) false),(3,.row 61 5 (cutF F).rs.length (wah (atR (cutF F).rs)) false)],5,[]⟩=⟨(wf2 g n k F).T,[(0,.row 49 7 k (waa (cutG g)) false),
  (1,.cells [.str (F.id.take 30),.q F.ver,.q F.day,.q F.kind,.own 2 (cutF F).ms.length,.view 5 (cutF F).rs.length (wah (atR (cutF F).rs)),.view 5 (cutF F).ts.length (wag (atT (cutF F).ts))] 49),
  (2,.row 40 15 (cutF F).ms.length (waf (atM (cutF F).ms)) false)],5,[]⟩:=by
   show (⟨_,[_,(1,.cells [.str (F.id.take 30),.q F.ver,.q F.day,.q F.kind,.own 2 (cutF F).ms.length,frz 3 5 (cutF F).rs.length (wah (atR (cutF F).rs)) (.own 3 (cutF F).rs.length),.view 5 (cutF F).ts.length (wag (atT (cutF F).ts))] 49),_],5,[]⟩:St)=_;simp only[frz,b2];rfl
 rw[e3];show (⟨_,[_,(1,.cells [.str (F.id.take 30),.q F.ver,.q F.day,.q F.kind,frz 2 15 (cutF F).ms.length (waf (atM (cutF F).ms)) (.own 2 (cutF F).ms.length),.view 5 (cutF F).rs.length (wah (atR (cutF F).rs)),.view 5 (cutF F).ts.length (wag (atT (cutF F).ts))] 49)],5,[]⟩:St)=_;simp only[frz,b1];rfl
theorem rw25_ok(hP:C.P=Tryz.prog)(g:Nat->FL)(n k:Nat)(F:FL):waj C 0 221 (regC Tryz.f28 25) (wo9 g n k F):=by
 have _:C.Loose:=inferInstance;rintro st Q ⟨h0,hk,hF,hQ⟩;refine AWP.canonIs (te:=te) [3,6,17,18,19] h0 (AWP.frzX 4 [] (λ_ _=>rfl) (AWP.frzX 3 [] (λ_ _=>rfl) (AWP.frzX 2 [] (λ_ _=>rfl) ?_))) ⟨λ_ _=>rfl,λ_ _=>rfl,λ_ _=>rfl,λ_ _=>rfl,trivial⟩;rw[rwb_frz];refine waj.reg (S:=wms g n k F) (prg hP) [] 0 .nil [3,6,17,18,19] [3,17,18,19] ⟨rfl,rQ7,rfl,trivial⟩ ?_ ⟨λ_ _=>rfl,trivial⟩;rw[nf_rw25];subst hF;have H:∀ch:Nat->List AV,ch 0=waa (cutG g) k->∀i,i<k+1->apF k (waa (cutG g)) ch i=waa (cutG g) i:=λch hc i hi=>by
  unfold apF
  by_cases h:i<k
  ·rw[if_pos h]
  ·have:i=k:=by omega
   rw[if_neg h,this,Nat.sub_self,hc]
 refine⟨⟨by omega,rfl,by omega⟩,⟨⟨lR7 _,rfl⟩,lR7 _,rfl,rfl,rfl,by omega,?_⟩,λi hi=>(congrArg nrefL (H _ rfl i hi)).trans rfl,_,?_,hQ⟩
 ·show (k+1) * 112<=_;omega
 ·exact⟨⟨rfl,rfl,rfl,rfl,rfl,H _ rfl⟩,trivial⟩
theorem wzz(hP:C.P=Tryz.prog)(g:Nat->FL)(n:Nat):waj C 0 221 (wal Tryz.f28 3) (wpd g n):=by
 rintro st Q ⟨h0,hn,hQ⟩;refine AWP.ownNil 3 49 7 ?_
 refine waj.mkI (prg hP) [] (λk=>[(7,wo8 g n k (g k) (min (g k).ms.length 3)),(15,wo7 g n k (g k) (min (g k).rs.length 3)),(21,wo5 g n k (g k) (min (g k).ts.length 3)),(1025,wo9 g n k (g k))]) 0 .nil
  (λk=>[(wal Tryz.f28 7,wo8 g n k (g k) (min (g k).ms.length 3)),(wal Tryz.f28 15,wo7 g n k (g k) (min (g k).rs.length 3)),(wal Tryz.f28 21,wo5 g n k (g k) (min (g k).ts.length 3)),(regC Tryz.f28 25,wo9 g n k (g k))]) (λk=>by kernel_rfl)
  (λk=>⟨wzl hP _ _ _ _ _,wzk hP _ _ _ _ _,wzi hP _ _ _ _ _,rw25_ok hP _ _ _ _,trivial⟩) [3,17,18,19] [3] [] (wmv g n) (λk=>k<=n) (λk=>n - k) 0 (zL7 _) h0 (λk hk=>?_) (λi=>⟨λ_ _=>rfl,trivial⟩)
 have mn:∀a:Nat,(min (a:Int) 3).toNat=min a 3:=λa=>by omega
 rw[w1q,tN7,wdj,mn,mn,mn];refine wak (λh1=>⟨⟨by omega,by omega,rfl⟩,⟨by omega,by omega⟩,⟨by omega,by omega⟩,⟨rfl,rQ7,rfl,rfl,⟨rfl,rfl,rfl,rfl,rfl,λi hi=>absurd hi (nZ7 i)⟩,trivial⟩,rfl,⟨by omega,by omega⟩,
  ⟨rfl,rQ7,rfl,rfl,rQ7,⟨rfl,rfl,rfl,rfl,rfl,λi hi=>absurd hi (nZ7 i)⟩,trivial⟩,rfl,⟨by omega,by omega⟩,
  ⟨rfl,rQ7,rfl,rQ7,rQ7,⟨rfl,rfl,rfl,rfl,rfl,λi hi=>absurd hi (nZ7 i)⟩,trivial⟩,rfl,
  ⟨rfl,rQ7,rfl,rQ7,rQ7,rQ7,trivial⟩,by omega,rfl,by simp only[inR];omega,k+1,⟨rfl,rQ7,trivial⟩,by omega,by omega⟩) (λh1=>?_)
 have:k=n:=by omega
 subst this;exact⟨λ_ _=>rfl,_,wam _,hQ⟩
theorem wzw(hP:C.P=Tryz.prog):wai C 28 wmu:=by
 rintro args objs U Os vc h hvc;unfold wmu at h;split at h<;>cases h;rename_i n f;have hf:=hvc;generalize flOf f=g at *;subst hf;refine wan.frzO 0 ?_;refine wa5.wpL (prg hP) [] [(3,wpd g (min n 6))] 0 .nil (hP ▸ Tryz.func28) rfl rfl rfl [(wal Tryz.f28 3,wpd g (min n 6))] (by kernel_rfl) ⟨wzz hP g _,trivial⟩ ?_;rw[w1n];have hm:(min (n:Int) (6:Int)).toNat=min n 6:=by omega
 rw[hm];refine⟨⟨by omega,by omega⟩,⟨rfl,⟨rfl,rfl,rfl,rfl,rfl,λi hi=>absurd hi (nZ7 i)⟩,trivial⟩,by omega,λ_ _=>rfl,_,wam _,λ_ _=>rfl,?_⟩;have hb:Nat.ble (min n 6) (min n 6)=true:=Nat.ble_eq_true_of_le (lR7 _)
 constructor
 ·simp[frzC,frzA,frz,hb]
 ·rfl
theorem nf_vc(g:Nat->FL)(m:Nat)(d e:Int)(n:Nat)(v:Nat->Int)(R:oR7):wpFn te [(38,.rel wop),(28,.det wmu),(42,.det wbd),(48,.det wf7),(49,.det wf7),(40,.det wmo),(31,.det wof)] [] 0 Tryz.f12 [.view 7 m (waa g),.q d,.q e,.view 1 n (wad v)] [] R=(letI z8:=((1:Int)<=8/\(8:Int)<=1000000:Prop);letI z7:=cutG (flOf (waa g));letI z4:=vInt (wad v);letI z3:=(min m 6<=1000/\waa z7=waa (flOf (waa z7))/\∀(i:Nat),i<min m 6->FL.Gd (flOf (waa z7) i));letI z1:=chgL okV (flOf (waa z7)) (min m 6) d e;letI z5:=waa (atF z1);27=27/\1=1/\wad v=wad z4/\((0:Int)<=0/\(0:Int)<=4611686018427300000)/\∀(L:List FL) (a':Int),letI z9:=flOf (waa (atF L));letI z2:=(L.length<=1000/\waa (atF L)=waa z9/\∀(i:Nat),i<L.length->FL.Gd (flOf (waa (atF L)) i));letI z0:=(chgL okV z9 L.length ((43859:Int)+wab n z4 a' (8:Int)) ((43859:Int)+wab n z4 (a'+1) (8:Int)));letI z6:=waa (atF z0);L.length<=8->(0:Int)<=a'/\a'<=0+25000->(∀(F:FL),F∈L->FL.Tn F)->(27=27/\1=1/\wad v=wad z4/\z8/\(0:Int)<=a'/\a'<=4611686018427387904)/\inR .i64 ((43859:Int)+wab n z4 a' (8:Int))/\(27=27/\1=1/\wad v=wad z4/\z8/\(0:Int)<=a'+1/\a'+1<=4611686018427387904)/\inR .i64 ((43859:Int)+wab n z4 (a'+1) (8:Int))/\waa g=waa (flOf (waa g))/\z3/\z3/\(z1.length<=1000000/\z1.length<=1000000/\waa (atF z1)=waa (flOf z5)/\waa (atF z1)=waa (flOf z5)/\(∀(i:Nat),i<z1.length->FL.Rg (flOf z5 i))/\∀(i:Nat),i<z1.length->FL.Rg (flOf z5 i))/\wac (decide (z1.length=z1.length) && eqFs (flOf z5) (flOf z5) z1.length) (z2/\z2/\(z0.length<=1000000/\z0.length<=1000000/\waa (atF z0)=waa (flOf z6)/\waa (atF z0)=waa (flOf z6)/\(∀(i:Nat),i<z0.length->FL.Rg (flOf z6 i))/\∀(i:Nat),i<z0.length->FL.Rg (flOf z6 i))/\wac (decide (z0.length=z0.length) && eqFs (flOf z6) (flOf z6) z0.length) (z2/\wac (decide ((↑(chgL okV z9 L.length ((43859:Int)+wab n z4 a' (8:Int)) ((43859:Int)+wab n z4 a' (8:Int))).length:Int)=0)) (True/\R (.bool true) []) (R (.bool false) [])) (R (.bool false) [])) (R (.bool false) [])):=by kernel_rfl
theorem sameFT(X:List FL):(decide (X.length=X.length) && eqFs (atF X) (atF X) X.length)=true:=by rw[decide_eq_true rfl,ww5];rfl
theorem lGd{L:List FL}(h:∀F∈L,F.Tn):∀i,i<L.length->(atF L i).Gd:=λ_i hi=>(h _ (wc6 hi)).gd
theorem cGd{g:Nat->FL}{m:Nat}(h:∀i,i<m->(g i).Ri):∀i,i<min m 6->(cutG g i).Gd:=λi hi=>(cutF_tn (h i (by omega))).gd
theorem rgL{X:List FL}(h:∀x∈X,x.Gd):∀i,i<X.length->(atF X i).Rg:=λ_i hi=>(h _ (wc6 hi)).rg
theorem ch_gd{g:Nat->FL}{n:Nat}{d e:Int}(hg:∀i,i<n->(g i).Gd):∀x∈chgL okV g n d e,x.Gd:=λx hx=>wic hg x (List.mem_filter.1 hx).1
theorem ch_len(g:Nat->FL)(n:Nat)(d e:Int):(chgL okV g n d e).length<=n:=Nat.le_trans (List.length_filter_le _ _) (wib g n e)
theorem vc_ok(hP:C.P=Tryz.prog)(hL:∀w,C.laid w->LaidW w)(m:Nat)(g:Nat->FL)(hR:∀i,i<m->(g i).Ri)(d e:Int)(n:Nat)(v:Nat->Int):ADet C 12 [.view 7 m (waa g),.q d,.q e,.view 1 n (wad v)] [] (.bool true) []:=by
 refine wai.wp0 (prg hP) [(38,.rel wop),(28,.det wmu),(42,.det wbd),(48,.det wf7),(49,.det wf7),(40,.det wmo),(31,.det wof)] 0 (.cons (w38 hP) (.cons (wzw hP) (.cons (wce hP) (.cons (chg_ok hP hL) (.cons (rchg_ok hP) (.cons (wzh hP) (.cons (w6w hP hL) .nil))))))) (hP ▸ Tryz.func12) rfl rfl rfl ?_;rw[nf_vc,show vInt (wad v)=v from rfl];refine⟨rfl,rfl,rfl,⟨by omega,by omega⟩,λL a hl ha hT=>?_⟩;have r1:=waw (show (1:Int)<=8 by omega) n v a;have r2:=waw (show (1:Int)<=8 by omega) n v (a+1)
 repeat rw[wct]
 have gC:=cGd hR;have gL:=lGd hT;have g1:=ch_gd (d:=d) (e:=e) gC;have l1:=ch_len (cutG g) (min m 6) d e;have rx:inR .i64 (43859+wab n v a 8):=by simp only[inR];omega
 have ry:inR .i64 (43859+wab n v (a+1) 8):=by simp only[inR];omega
 generalize 43859+wab n v a 8=x at *;generalize 43859+wab n v (a+1) 8=y at *;have g2:=ch_gd (d:=x) (e:=y) gL;have l2:=ch_len (atF L) L.length x y;rw[sameFT,sameFT,w59]
 repeat rw[condP_true]
 exact⟨⟨rfl,rfl,rfl,⟨by omega,by omega⟩,by omega,by omega⟩,rx,⟨rfl,rfl,rfl,⟨by omega,by omega⟩,by omega,by omega⟩,ry,rfl,⟨by omega,rfl,gC⟩,⟨by omega,rfl,gC⟩,⟨by omega,by omega,rfl,rfl,rgL g1,rgL g1⟩,⟨by omega,rfl,gL⟩,⟨by omega,rfl,gL⟩,⟨by omega,by omega,rfl,rfl,rgL g2,rgL g2⟩,⟨by omega,rfl,gL⟩,trivial,rfl,rfl⟩
end Go.Eng
namespace Go.Eng
open Go.Proofs Go.RowKit Go.ChangeShapes Go.WideShapes Go.ChangeAt
theorem params_Cz:Tryz.f12.params=#[51,3,3,23]:=by kernel_rfl
set_option maxRecDepth 100000 in
theorem w4a(os:Os)(started:os.Started)(H:Type)(enc:TypeId×Value->H):
  ReturnsInHanded {} Tryz.checked os 12 .any (λw args=>(Go.Proofs.YtgcboligphndhaaGreatDoor.Rows.vintageChangesSpec.pre enc Tryz.prog Tryz.f12 [] false w args/\laidMetH Tryz.prog Go.Proofs.YtgcboligphndhaaGreatDoor.Rows.vintageChangesRow.laid w)/\sizedMet enc Tryz.prog Tryz.f12 (OpenSpec.ofChange Go.Proofs.YtgcboligphndhaaGreatDoor.Rows.vintageChangesSpec) false w args)
   (Go.Proofs.YtgcboligphndhaaGreatDoor.Rows.vintageChangesSpec.post enc Tryz.prog Tryz.f12 false true false false):=by
 refine w43 (C:=Tryz.checked) (X:=λw _=>laidMetH Tryz.prog Go.Proofs.YtgcboligphndhaaGreatDoor.Rows.vintageChangesRow.laid w) (λ_ _ _ hh h=>h.of_heap hh) ownK started (by kernel_rfl) Tryz.func12
  (ChangeSpec.witness_at (enc:=enc) (C:=Tryz.checked) (os:=os) (X:=λw _=>laidMetH Tryz.prog Go.Proofs.YtgcboligphndhaaGreatDoor.Rows.vintageChangesRow.laid w) false (wv1 os) #[.slice none 0 0,.int .i64 0,.int .i64 0,.slice none 0 0] 8 rfl (by kernel_rfl) (by kernel_rfl) (by kernel_rfl) (by kernel_rfl) (by kernel_rfl) (w4f os _)) ?_
 intro W base args ds gs before hval0 hW hL hsh;have hval:∀(j:Nat) t v,Tryz.f12.params[j]?=some t->args[j]?=some v->Value.okWide Tryz.prog W .any base t v:=hval0;have hW':=hW;obtain⟨p,q,hA0,hV,rfl,hfz,hnd⟩:=hW;have hA:DataW.TrodAll enc Tryz.prog W 0 (λ_=>true) true Tryz.f12.params.toList args.toList ds p:=hA0;rw[params_Cz] at hA hval;obtain⟨v0,vs0,d0,ds0,p0,q0,hargs,rfl,rfl,h0,r0⟩:=trodAll_cons hA;obtain⟨v1,vs1,d1,ds1,p1,q1,rfl,rfl,rfl,h1,r1⟩:=trodAll_cons r0;obtain⟨v2,vs2,d2,ds2,p2,q2,rfl,rfl,rfl,h2,r2⟩:=trodAll_cons r1;obtain⟨v3,vs3,d3,ds3,p3,q3,rfl,rfl,rfl,h3,r3⟩:=trodAll_cons r2;obtain⟨rfl,rfl,rfl⟩:=trodAll_nil r3;obtain rfl:args=#[v0,v1,v2,v3]:=by cases args;simp_all
 obtain⟨rfl,rfl⟩:=trodVars_none hV;obtain⟨a0,len0,cap0,rfl⟩:=okWide_slice undFls (hval 0 51 v0 rfl rfl);obtain⟨z1,rfl⟩:=okWide_int undI (hval 1 3 v1 rfl rfl);obtain⟨z2,rfl⟩:=okWide_int undI (hval 2 3 v2 rfl rfl);obtain⟨a3,len3,cap3,rfl⟩:=okWide_slice undIs (hval 3 23 v3 rfl rfl);have k0:=h0;have k1:=h1;have k2:=h2;have k3:=h3;have lt0:∀x∈p0,x.block<W.heap.size:=by obtain⟨m,hm⟩:=k0;exact DataW.trod_lt m _ _ _ hm
 have lt1:∀x∈p1,x.block<W.heap.size:=by obtain⟨m,hm⟩:=k1;exact DataW.trod_lt m _ _ _ hm
 have lt2:∀x∈p2,x.block<W.heap.size:=by obtain⟨m,hm⟩:=k2;exact DataW.trod_lt m _ _ _ hm
 have lt3:∀x∈p3,x.block<W.heap.size:=by obtain⟨m,hm⟩:=k3;exact DataW.trod_lt m _ _ _ hm
 obtain⟨m0,hm0⟩:=h0;obtain⟨m3,hm3⟩:=h3;obtain⟨A0,n0,c0,g0,e0,V0,R0⟩:=wzt hm0;have e0:[Value.slice a0 len0 cap0]=[Value.slice A0 n0 c0]:=e0;simp only[List.cons.injEq,and_true] at e0;rw[← e0] at V0;obtain⟨A3,n3,c3,w3,e3,V3⟩:=wzs hm3;have e3:[Value.slice a3 len3 cap3]=[Value.slice A3 n3 c3]:=e3;simp only[List.cons.injEq,and_true] at e3;rw[← e3] at V3;have lw:=w4g hL hsh;refine(ADet.top (C:=cx) (vc_ok rfl (λ_ h=>h) n0 g0 R0 z1 z2 n3 w3) lw (gsz_le lw) (cargs:=[.slice a0 len0 cap0,.int .i64 z1,.int .i64 z2,.slice a3 len3 cap3]) rfl (λj x u hx hu=>?_)).mono λe W' ⟨he,bel⟩=>?_
 ·match j with
  |0=>obtain rfl:=Option.some.inj hx;obtain rfl:=Option.some.inj hu;exact V0
  |1=>obtain rfl:=Option.some.inj hx;obtain rfl:=Option.some.inj hu;exact .int
  |2=>obtain rfl:=Option.some.inj hx;obtain rfl:=Option.some.inj hu;exact .int
  |3=>obtain rfl:=Option.some.inj hx;obtain rfl:=Option.some.inj hu;exact V3
  |j+4=>simp at hx
 ·subst he;exact⟨_,rfl,_,_,_,[],_,[],hW',trodAll_mk1 (shut_bool (show Tryz.prog.underlying 4=some .bool by kernel_rfl) _),(trodAll_cons_mk (Below.trod wiv (by kernel_rfl) (of_decide_eq_true (by kernel_rfl)) k0 bel lt0) (trodAll_cons_mk (Below.trod wiv (by kernel_rfl) (of_decide_eq_true (by kernel_rfl)) k1 bel lt1) (trodAll_cons_mk (Below.trod wiv (by kernel_rfl) (of_decide_eq_true (by kernel_rfl)) k2 bel lt2) (trodAll_cons_mk (Below.trod wiv (by kernel_rfl) (of_decide_eq_true (by kernel_rfl)) k3 bel lt3) trodAll_mk0)))),rfl,bel.frame _,λh=>by cases h⟩
set_option maxRecDepth 100000 in
theorem over_Cz:Go.Proofs.YtgcboligphndhaaGreatDoor.Rows.vintageChangesRow.holds Go.Proofs.YtgcboligphndhaaGreatDoor.Tryz.pinned (OpenSpec.ofChange Go.Proofs.YtgcboligphndhaaGreatDoor.Rows.vintageChangesSpec):=
 OpenClaim.holds_of_wide 12 Tryz.f12 rfl rfl rfl rfl rfl rfl rfl ⟨rfl,rfl,rfl,rfl,rfl⟩ rfl rfl rfl rfl rfl (by kernel_rfl) Tryz.func12 w56
  inst_Cz (by unfold Func.isWrapper;rw[if_neg (of_decide_eq_false (by kernel_rfl))];exact⟨rfl,rfl⟩)
  (λos started H enc _=>w4a os started H enc)
end Go.Eng
namespace Go.Proofs.YtgcboligphndhaaGreatDoor
open Go
def harB : Bool × String := (true, "40fb3bd35b79f194dc6e91eb15eecf1db62dc7e1bded180275d4dc3755fccfaf")
set_option maxRecDepth 100000 in
theorem mainB:Tryz.prog.mainIs=some (harB.1,harB.2.toList):=by kernel_rfl
set_option maxRecDepth 100000 in
theorem looksB:true=Tryz.prog.looks []:=by kernel_rfl
end Go.Proofs.YtgcboligphndhaaGreatDoor
namespace Go.Proofs.YtgcboligphndhaaGreatDoor
open Go
set_option maxRecDepth 100000 in
theorem wf_Cz:Rows.vintageChangesRow.wfByText (OpenSpec.ofChange Rows.vintageChangesSpec)=true:=by kernel_rfl
set_option maxRecDepth 100000 in
theorem goes_Cz:false=Rows.vintageChangesRow.goesBy Tryz.prog:=by kernel_rfl
theorem w3m : Tryz.prog.funcNamed "priceoffice/priceofficelaw15.VintageChanges" = some 12 := by kernel_rfl
theorem wy7:Tryz.prog.wantsStandIn 51=false:=by kernel_rfl
theorem wt1:Tryz.prog.wantsStandIn 3=false:=by kernel_rfl
theorem wy6:Tryz.prog.wantsStandIn 23=false:=by kernel_rfl
theorem card_Cz:Rows.VintageChangesCardSaid:=
 Claim7.holds_tied_plain_at .later [] [.data,.data,.data,.data,.sentinel,.sentinel,.pinned] true harB true
  Go.Eng.over_Cz (λ_ h=>by cases h) wf_Cz (λ_ h=>by cases h) vintageChanges_row_tie rfl ⟨rfl,rfl⟩ mainB rfl
  (λf fn hf hfn=>by
   obtain rfl:f=12:=Option.some.inj (w3m.symm.trans hf) |>.symm;obtain rfl:fn=Tryz.f12:=(Option.some.inj (Tryz.func12.symm.trans hfn)).symm;exact⟨looksB,λj t ht=>by
    rw[Go.Eng.params_Cz] at ht;have h3:t=51∨t=3∨t=3∨t=23:=by
     rcases j with _ | _ | _ | _ | j
     ·exact .inl (by simpa using ht.symm)
     ·exact .inr (.inl (by simpa using ht.symm))
     ·exact .inr (.inr (.inl (by simpa using ht.symm)))
     ·exact .inr (.inr (.inr ((by simpa using ht.symm))))
     ·simp at ht
    rcases h3 with rfl | rfl | rfl | rfl
    ·exact wy7
    ·exact wt1
    ·exact wt1
    ·exact wy6⟩)
  goes_Cz
end Go.Proofs.YtgcboligphndhaaGreatDoor
