/- Lemmas that the tied card of CollectionUnion is proved by. -/
import Derived.Test.YtokpcnppihgdlaaGreatDoorNo
import Derived.Test.YtokpcnppihgdlaaGreatDoorNs
import Derived.Test.YtokpcnppihgdlaaGreatDoorNp
import Derived.Test.YtokpcnppihgdlaaGreatDoorNq
import Derived.Test.YtokpcnppihgdlaaGreatDoorNr
/- Messages: what Validate answers. -/
namespace Go.Eng
open Go.Proofs Go.RowKit
variable {C : Ctx} [C.Loose]
set_option maxRecDepth 20000
theorem nf_cname (s : List UInt8) (R : AV → List (Nat × AObj) → Prop) : wpFn te [(97, .det S_val0)] [] 0 Tryz.f64 [.str s] [] R = ((2 < 4294967281 ∧ List.length s < 4294967281) ∧ R (.bool (decide ((valF [(48 : UInt8), 48, 48, 48, 48, 48, 48, 48] [(48 : UInt8), 49] s (4 : Int) (1 : Int) (1 : Int) 0 (fun (x : Nat) => []) fun (x : Nat) => []) = (0 : Int)))) []) := by kernel_rfl
theorem nf_cnum (n : Int) (R : AV → List (Nat × AObj) → Prop) : wpFn te [] [] 0 Tryz.f65 [.int .i64 n] [] R = (condP (decide ((1 : Int) ≤ n)) (R (.bool (decide (n ≤ (1048576 : Int)))) []) (R (.bool false) [])) := by kernel_rfl
theorem nf_calv (n : Int) (R : AV → List (Nat × AObj) → Prop) : wpFn te [] [] 0 Tryz.f127 [.int .i64 n] [] R = (condP (decide ((0 : Int) ≤ n)) (R (.bool (decide (n ≤ (182620 : Int)))) []) (R (.bool false) [])) := by kernel_rfl
theorem nf_weekday (n : Int) (R : AV → List (Nat × AObj) → Prop) : wpFn te [(127, .det S_calv)] [] 0 Tryz.f98 [.int .i64 n] [] R = (True ∧ condP (!(decide ((0 : Int) ≤ n) && decide (n ≤ (182620 : Int)))) (R (.int .i64 (-1 : Int)) []) ((7 : Int) ≠ (0 : Int) ∧ R (.int .i64 (Int.tmod n (7 : Int))) [])) := by kernel_rfl
theorem nf_slot (o p : List UInt8) (per : Int) (R : AV → List (Nat × AObj) → Prop) : wpFn te [(64, .det S_cname), (92, .det S_validID)] [] 0 Tryz.f67 [.str o, .str p, .int .i64 per] [] R = (List.length o < 4294967281 ∧ condP (nameF o) (True ∧ condP (validIDF p) (condP (decide ((0 : Int) ≤ per)) (R (.bool (decide (per ≤ (5999 : Int)))) []) (R (.bool false) [])) (R (.bool false) [])) (R (.bool false) [])) := by kernel_rfl
theorem nf_visit (o p : List UInt8) (per day st pr : Int) (rep : List UInt8) (R : AV → List (Nat × AObj) → Prop) : wpFn te [(67, .det S_slot), (92, .det S_validID), (98, .det S_weekday)] [] 0 Tryz.f66 [.agg [.str o, .str p, .int .i64 per, .int .i64 day, .int .i64 st, .int .i64 pr, .str rep]] [] R = (List.length o < 4294967281 ∧ condP (!slotF o p per) (R (.bool false) []) (True ∧ condP (decide ((bif decide ((0 : Int) ≤ day) && decide (day ≤ (182620 : Int)) then day % (7 : Int) else (-1 : Int)) < (0 : Int))) (R (.bool false) []) (condP (decide (st = (1 : Int))) (condP (decide (st = (1 : Int))) (condP (decide (pr < (1 : Int))) (R (.bool false) []) (condP (decide ((1099511627776 : Int) < pr)) (R (.bool false) []) (condP (decide (st = (5 : Int))) (True ∧ condP (validIDF rep) (R (.bool !decide (rep = p)) []) (R (.bool false) [])) (R (.bool (decide (rep = []))) [])))) (condP (decide (st = (3 : Int))) (condP (decide (st = (3 : Int))) (condP (!decide (pr = (0 : Int))) (R (.bool false) []) (condP (decide (st = (5 : Int))) (True ∧ condP (validIDF rep) (R (.bool !decide (rep = p)) []) (R (.bool false) [])) (R (.bool (decide (rep = []))) []))) (R (.bool false) [])) (condP (decide (st = (4 : Int))) (condP (!decide (pr = (0 : Int))) (R (.bool false) []) (condP (decide (st = (5 : Int))) (True ∧ condP (validIDF rep) (R (.bool !decide (rep = p)) []) (R (.bool false) [])) (R (.bool (decide (rep = []))) []))) (R (.bool false) [])))) (condP (decide (st = (2 : Int))) (condP (decide (st = (2 : Int))) (condP (decide (pr < (1 : Int))) (R (.bool false) []) (condP (decide ((1099511627776 : Int) < pr)) (R (.bool false) []) (condP (decide (st = (5 : Int))) (True ∧ condP (validIDF rep) (R (.bool !decide (rep = p)) []) (R (.bool false) [])) (R (.bool (decide (rep = []))) [])))) (condP (decide (st = (3 : Int))) (condP (decide (st = (3 : Int))) (condP (!decide (pr = (0 : Int))) (R (.bool false) []) (condP (decide (st = (5 : Int))) (True ∧ condP (validIDF rep) (R (.bool !decide (rep = p)) []) (R (.bool false) [])) (R (.bool (decide (rep = []))) []))) (R (.bool false) [])) (condP (decide (st = (4 : Int))) (condP (!decide (pr = (0 : Int))) (R (.bool false) []) (condP (decide (st = (5 : Int))) (True ∧ condP (validIDF rep) (R (.bool !decide (rep = p)) []) (R (.bool false) [])) (R (.bool (decide (rep = []))) []))) (R (.bool false) [])))) (condP (decide (st = (5 : Int))) (condP (decide (pr < (1 : Int))) (R (.bool false) []) (condP (decide ((1099511627776 : Int) < pr)) (R (.bool false) []) (condP (decide (st = (5 : Int))) (True ∧ condP (validIDF rep) (R (.bool !decide (rep = p)) []) (R (.bool false) [])) (R (.bool (decide (rep = []))) [])))) (condP (decide (st = (3 : Int))) (condP (decide (st = (3 : Int))) (condP (!decide (pr = (0 : Int))) (R (.bool false) []) (condP (decide (st = (5 : Int))) (True ∧ condP (validIDF rep) (R (.bool !decide (rep = p)) []) (R (.bool false) [])) (R (.bool (decide (rep = []))) []))) (R (.bool false) [])) (condP (decide (st = (4 : Int))) (condP (!decide (pr = (0 : Int))) (R (.bool false) []) (condP (decide (st = (5 : Int))) (True ∧ condP (validIDF rep) (R (.bool !decide (rep = p)) []) (R (.bool false) [])) (R (.bool (decide (rep = []))) []))) (R (.bool false) [])))))))) := by kernel_rfl
theorem nf_msg (m : MG) (R : AV → List (Nat × AObj) → Prop) : wpFn te [(64, .det S_cname), (67, .det S_slot), (66, .det S_visit), (65, .det S_num)] [] 0 Tryz.f33 [.agg [.str m.dev, .int .i64 m.seq, .int .i64 m.kind, .str m.v.o, .str m.v.p, .int .i64 m.v.per, .int .i64 m.v.day, .int .i64 m.v.st, .int .i64 m.v.pr, .str m.v.rep, .str m.d.o, .str m.d.p, .int .i64 m.d.per, .str m.d.dev, .int .i64 m.d.num]] [] R = (List.length (MG.dev m) < 4294967281 ∧ condP (!nameF (MG.dev m)) (R (.int .i64 110) []) (True ∧ condP (!numF (MG.seq m)) (R (.int .i64 111) []) (condP (!decide (MG.kind m = (1 : Int))) (condP (!decide (MG.kind m = (2 : Int))) (R (.int .i64 112) []) (condP (decide (MG.kind m = (1 : Int))) (List.length (VT.o (MG.v m)) < 4294967281 ∧ condP (!visF (VT.mk (VT.o (MG.v m)) (VT.p (MG.v m)) (VT.per (MG.v m)) (VT.day (MG.v m)) (VT.st (MG.v m)) (VT.pr (MG.v m)) (VT.rep (MG.v m)))) (R (.int .i64 113) []) (condP (decide (MG.kind m = (2 : Int))) (condP (!(decide (VT.o (MG.v m) = []) && (decide (VT.p (MG.v m) = []) && (decide (VT.per (MG.v m) = (0 : Int)) && (decide (VT.day (MG.v m) = (0 : Int)) && (decide (VT.st (MG.v m) = (0 : Int)) && (decide (VT.pr (MG.v m) = (0 : Int)) && decide (VT.rep (MG.v m) = [])))))))) (R (.int .i64 113) []) (condP (decide (MG.kind m = (1 : Int))) (condP (!(decide (DT.o (MG.d m) = []) && (decide (DT.p (MG.d m) = []) && (decide (DT.per (MG.d m) = (0 : Int)) && (decide (DT.dev (MG.d m) = []) && decide (DT.num (MG.d m) = (0 : Int))))))) (R (.int .i64 114) []) (condP (decide (MG.kind m = (2 : Int))) (List.length (DT.o (MG.d m)) < 4294967281 ∧ condP (slotF (DT.o (MG.d m)) (DT.p (MG.d m)) (DT.per (MG.d m))) (List.length (DT.dev (MG.d m)) < 4294967281 ∧ condP (nameF (DT.dev (MG.d m))) (True ∧ condP (!numF (DT.num (MG.d m))) (R (.int .i64 114) []) (R (.int .i64 0) [])) (R (.int .i64 114) [])) (R (.int .i64 114) [])) (R (.int .i64 0) []))) (condP (decide (MG.kind m = (2 : Int))) (List.length (DT.o (MG.d m)) < 4294967281 ∧ condP (slotF (DT.o (MG.d m)) (DT.p (MG.d m)) (DT.per (MG.d m))) (List.length (DT.dev (MG.d m)) < 4294967281 ∧ condP (nameF (DT.dev (MG.d m))) (True ∧ condP (!numF (DT.num (MG.d m))) (R (.int .i64 114) []) (R (.int .i64 0) [])) (R (.int .i64 114) [])) (R (.int .i64 114) [])) (R (.int .i64 0) [])))) (condP (decide (MG.kind m = (1 : Int))) (condP (!(decide (DT.o (MG.d m) = []) && (decide (DT.p (MG.d m) = []) && (decide (DT.per (MG.d m) = (0 : Int)) && (decide (DT.dev (MG.d m) = []) && decide (DT.num (MG.d m) = (0 : Int))))))) (R (.int .i64 114) []) (condP (decide (MG.kind m = (2 : Int))) (List.length (DT.o (MG.d m)) < 4294967281 ∧ condP (slotF (DT.o (MG.d m)) (DT.p (MG.d m)) (DT.per (MG.d m))) (List.length (DT.dev (MG.d m)) < 4294967281 ∧ condP (nameF (DT.dev (MG.d m))) (True ∧ condP (!numF (DT.num (MG.d m))) (R (.int .i64 114) []) (R (.int .i64 0) [])) (R (.int .i64 114) [])) (R (.int .i64 114) [])) (R (.int .i64 0) []))) (condP (decide (MG.kind m = (2 : Int))) (List.length (DT.o (MG.d m)) < 4294967281 ∧ condP (slotF (DT.o (MG.d m)) (DT.p (MG.d m)) (DT.per (MG.d m))) (List.length (DT.dev (MG.d m)) < 4294967281 ∧ condP (nameF (DT.dev (MG.d m))) (True ∧ condP (!numF (DT.num (MG.d m))) (R (.int .i64 114) []) (R (.int .i64 0) [])) (R (.int .i64 114) [])) (R (.int .i64 114) [])) (R (.int .i64 0) []))))) (condP (decide (MG.kind m = (2 : Int))) (condP (!(decide (VT.o (MG.v m) = []) && (decide (VT.p (MG.v m) = []) && (decide (VT.per (MG.v m) = (0 : Int)) && (decide (VT.day (MG.v m) = (0 : Int)) && (decide (VT.st (MG.v m) = (0 : Int)) && (decide (VT.pr (MG.v m) = (0 : Int)) && decide (VT.rep (MG.v m) = [])))))))) (R (.int .i64 113) []) (condP (decide (MG.kind m = (1 : Int))) (condP (!(decide (DT.o (MG.d m) = []) && (decide (DT.p (MG.d m) = []) && (decide (DT.per (MG.d m) = (0 : Int)) && (decide (DT.dev (MG.d m) = []) && decide (DT.num (MG.d m) = (0 : Int))))))) (R (.int .i64 114) []) (condP (decide (MG.kind m = (2 : Int))) (List.length (DT.o (MG.d m)) < 4294967281 ∧ condP (slotF (DT.o (MG.d m)) (DT.p (MG.d m)) (DT.per (MG.d m))) (List.length (DT.dev (MG.d m)) < 4294967281 ∧ condP (nameF (DT.dev (MG.d m))) (True ∧ condP (!numF (DT.num (MG.d m))) (R (.int .i64 114) []) (R (.int .i64 0) [])) (R (.int .i64 114) [])) (R (.int .i64 114) [])) (R (.int .i64 0) []))) (condP (decide (MG.kind m = (2 : Int))) (List.length (DT.o (MG.d m)) < 4294967281 ∧ condP (slotF (DT.o (MG.d m)) (DT.p (MG.d m)) (DT.per (MG.d m))) (List.length (DT.dev (MG.d m)) < 4294967281 ∧ condP (nameF (DT.dev (MG.d m))) (True ∧ condP (!numF (DT.num (MG.d m))) (R (.int .i64 114) []) (R (.int .i64 0) [])) (R (.int .i64 114) [])) (R (.int .i64 114) [])) (R (.int .i64 0) [])))) (condP (decide (MG.kind m = (1 : Int))) (condP (!(decide (DT.o (MG.d m) = []) && (decide (DT.p (MG.d m) = []) && (decide (DT.per (MG.d m) = (0 : Int)) && (decide (DT.dev (MG.d m) = []) && decide (DT.num (MG.d m) = (0 : Int))))))) (R (.int .i64 114) []) (condP (decide (MG.kind m = (2 : Int))) (List.length (DT.o (MG.d m)) < 4294967281 ∧ condP (slotF (DT.o (MG.d m)) (DT.p (MG.d m)) (DT.per (MG.d m))) (List.length (DT.dev (MG.d m)) < 4294967281 ∧ condP (nameF (DT.dev (MG.d m))) (True ∧ condP (!numF (DT.num (MG.d m))) (R (.int .i64 114) []) (R (.int .i64 0) [])) (R (.int .i64 114) [])) (R (.int .i64 114) [])) (R (.int .i64 0) []))) (condP (decide (MG.kind m = (2 : Int))) (List.length (DT.o (MG.d m)) < 4294967281 ∧ condP (slotF (DT.o (MG.d m)) (DT.p (MG.d m)) (DT.per (MG.d m))) (List.length (DT.dev (MG.d m)) < 4294967281 ∧ condP (nameF (DT.dev (MG.d m))) (True ∧ condP (!numF (DT.num (MG.d m))) (R (.int .i64 114) []) (R (.int .i64 0) [])) (R (.int .i64 114) [])) (R (.int .i64 114) [])) (R (.int .i64 0) [])))))) (condP (decide (MG.kind m = (1 : Int))) (List.length (VT.o (MG.v m)) < 4294967281 ∧ condP (!visF (VT.mk (VT.o (MG.v m)) (VT.p (MG.v m)) (VT.per (MG.v m)) (VT.day (MG.v m)) (VT.st (MG.v m)) (VT.pr (MG.v m)) (VT.rep (MG.v m)))) (R (.int .i64 113) []) (condP (decide (MG.kind m = (2 : Int))) (condP (!(decide (VT.o (MG.v m) = []) && (decide (VT.p (MG.v m) = []) && (decide (VT.per (MG.v m) = (0 : Int)) && (decide (VT.day (MG.v m) = (0 : Int)) && (decide (VT.st (MG.v m) = (0 : Int)) && (decide (VT.pr (MG.v m) = (0 : Int)) && decide (VT.rep (MG.v m) = [])))))))) (R (.int .i64 113) []) (condP (decide (MG.kind m = (1 : Int))) (condP (!(decide (DT.o (MG.d m) = []) && (decide (DT.p (MG.d m) = []) && (decide (DT.per (MG.d m) = (0 : Int)) && (decide (DT.dev (MG.d m) = []) && decide (DT.num (MG.d m) = (0 : Int))))))) (R (.int .i64 114) []) (condP (decide (MG.kind m = (2 : Int))) (List.length (DT.o (MG.d m)) < 4294967281 ∧ condP (slotF (DT.o (MG.d m)) (DT.p (MG.d m)) (DT.per (MG.d m))) (List.length (DT.dev (MG.d m)) < 4294967281 ∧ condP (nameF (DT.dev (MG.d m))) (True ∧ condP (!numF (DT.num (MG.d m))) (R (.int .i64 114) []) (R (.int .i64 0) [])) (R (.int .i64 114) [])) (R (.int .i64 114) [])) (R (.int .i64 0) []))) (condP (decide (MG.kind m = (2 : Int))) (List.length (DT.o (MG.d m)) < 4294967281 ∧ condP (slotF (DT.o (MG.d m)) (DT.p (MG.d m)) (DT.per (MG.d m))) (List.length (DT.dev (MG.d m)) < 4294967281 ∧ condP (nameF (DT.dev (MG.d m))) (True ∧ condP (!numF (DT.num (MG.d m))) (R (.int .i64 114) []) (R (.int .i64 0) [])) (R (.int .i64 114) [])) (R (.int .i64 114) [])) (R (.int .i64 0) [])))) (condP (decide (MG.kind m = (1 : Int))) (condP (!(decide (DT.o (MG.d m) = []) && (decide (DT.p (MG.d m) = []) && (decide (DT.per (MG.d m) = (0 : Int)) && (decide (DT.dev (MG.d m) = []) && decide (DT.num (MG.d m) = (0 : Int))))))) (R (.int .i64 114) []) (condP (decide (MG.kind m = (2 : Int))) (List.length (DT.o (MG.d m)) < 4294967281 ∧ condP (slotF (DT.o (MG.d m)) (DT.p (MG.d m)) (DT.per (MG.d m))) (List.length (DT.dev (MG.d m)) < 4294967281 ∧ condP (nameF (DT.dev (MG.d m))) (True ∧ condP (!numF (DT.num (MG.d m))) (R (.int .i64 114) []) (R (.int .i64 0) [])) (R (.int .i64 114) [])) (R (.int .i64 114) [])) (R (.int .i64 0) []))) (condP (decide (MG.kind m = (2 : Int))) (List.length (DT.o (MG.d m)) < 4294967281 ∧ condP (slotF (DT.o (MG.d m)) (DT.p (MG.d m)) (DT.per (MG.d m))) (List.length (DT.dev (MG.d m)) < 4294967281 ∧ condP (nameF (DT.dev (MG.d m))) (True ∧ condP (!numF (DT.num (MG.d m))) (R (.int .i64 114) []) (R (.int .i64 0) [])) (R (.int .i64 114) [])) (R (.int .i64 114) [])) (R (.int .i64 0) []))))) (condP (decide (MG.kind m = (2 : Int))) (condP (!(decide (VT.o (MG.v m) = []) && (decide (VT.p (MG.v m) = []) && (decide (VT.per (MG.v m) = (0 : Int)) && (decide (VT.day (MG.v m) = (0 : Int)) && (decide (VT.st (MG.v m) = (0 : Int)) && (decide (VT.pr (MG.v m) = (0 : Int)) && decide (VT.rep (MG.v m) = [])))))))) (R (.int .i64 113) []) (condP (decide (MG.kind m = (1 : Int))) (condP (!(decide (DT.o (MG.d m) = []) && (decide (DT.p (MG.d m) = []) && (decide (DT.per (MG.d m) = (0 : Int)) && (decide (DT.dev (MG.d m) = []) && decide (DT.num (MG.d m) = (0 : Int))))))) (R (.int .i64 114) []) (condP (decide (MG.kind m = (2 : Int))) (List.length (DT.o (MG.d m)) < 4294967281 ∧ condP (slotF (DT.o (MG.d m)) (DT.p (MG.d m)) (DT.per (MG.d m))) (List.length (DT.dev (MG.d m)) < 4294967281 ∧ condP (nameF (DT.dev (MG.d m))) (True ∧ condP (!numF (DT.num (MG.d m))) (R (.int .i64 114) []) (R (.int .i64 0) [])) (R (.int .i64 114) [])) (R (.int .i64 114) [])) (R (.int .i64 0) []))) (condP (decide (MG.kind m = (2 : Int))) (List.length (DT.o (MG.d m)) < 4294967281 ∧ condP (slotF (DT.o (MG.d m)) (DT.p (MG.d m)) (DT.per (MG.d m))) (List.length (DT.dev (MG.d m)) < 4294967281 ∧ condP (nameF (DT.dev (MG.d m))) (True ∧ condP (!numF (DT.num (MG.d m))) (R (.int .i64 114) []) (R (.int .i64 0) [])) (R (.int .i64 114) [])) (R (.int .i64 114) [])) (R (.int .i64 0) [])))) (condP (decide (MG.kind m = (1 : Int))) (condP (!(decide (DT.o (MG.d m) = []) && (decide (DT.p (MG.d m) = []) && (decide (DT.per (MG.d m) = (0 : Int)) && (decide (DT.dev (MG.d m) = []) && decide (DT.num (MG.d m) = (0 : Int))))))) (R (.int .i64 114) []) (condP (decide (MG.kind m = (2 : Int))) (List.length (DT.o (MG.d m)) < 4294967281 ∧ condP (slotF (DT.o (MG.d m)) (DT.p (MG.d m)) (DT.per (MG.d m))) (List.length (DT.dev (MG.d m)) < 4294967281 ∧ condP (nameF (DT.dev (MG.d m))) (True ∧ condP (!numF (DT.num (MG.d m))) (R (.int .i64 114) []) (R (.int .i64 0) [])) (R (.int .i64 114) [])) (R (.int .i64 114) [])) (R (.int .i64 0) []))) (condP (decide (MG.kind m = (2 : Int))) (List.length (DT.o (MG.d m)) < 4294967281 ∧ condP (slotF (DT.o (MG.d m)) (DT.p (MG.d m)) (DT.per (MG.d m))) (List.length (DT.dev (MG.d m)) < 4294967281 ∧ condP (nameF (DT.dev (MG.d m))) (True ∧ condP (!numF (DT.num (MG.d m))) (R (.int .i64 114) []) (R (.int .i64 0) [])) (R (.int .i64 114) [])) (R (.int .i64 114) [])) (R (.int .i64 0) [])))))))) := by kernel_rfl

theorem val0_ok (hP : C.P = Tryz.prog) (hL : ∀ w, C.laid w → LaidW w) : SpecOK C 97 S_val0 := by
  rintro args objs U Os vc h hvc
  unfold S_val0 at h
  split at h <;> simp only [Option.some.injEq, Prod.mk.injEq, reduceCtorEq] at h
  rename_i id code brand d c a
  obtain ⟨rfl, rfl, rfl⟩ := h
  exact ACalls.nilArg 2 (atRow (fun _ => []) (fun _ => [])) (valV_ok hP hL _ _ _ _ _ rfl ⟨Nat.zero_le _, hvc.1, hvc.2, fun i hi => absurd hi (Nat.not_lt_zero i), rfl⟩)
theorem cname_val (s : List UInt8) : decide (valF [48, 48, 48, 48, 48, 48, 48, 48] [48, 49] s 4 1 1 0 (fun _ => []) (fun _ => []) = 0) = nameF s := by
  unfold valF
  rw [show validIDF [48, 48, 48, 48, 48, 48, 48, 48] = true by decide +kernel, show parseOK [48, 49] = true by decide +kernel, show qtyF 4 1 1 = 0 by rfl]
  cases nameF s <;> rfl

theorem cname_ok (hP : C.P = Tryz.prog) (hL : ∀ w, C.laid w → LaidW w) : SpecOK C 64 S_cname := by
  rintro args objs U Os vc h hvc
  unfold S_cname at h
  split at h <;> simp only [Option.some.injEq, Prod.mk.injEq, reduceCtorEq] at h
  rename_i s
  obtain ⟨rfl, rfl, rfl⟩ := h
  refine SpecOK.wp0 (prg hP) [(97, .det S_val0)] 0 (.cons (val0_ok hP hL) .nil) (hP ▸ Tryz.func64) rfl rfl rfl ?_
  rw [nf_cname, cname_val]
  exact ⟨⟨by omega, hvc⟩, rfl, rfl⟩

theorem cnum_ok (hP : C.P = Tryz.prog) : SpecOK C 65 S_num := by
  have _ : C.Loose := inferInstance
  rintro args objs U Os vc h hvc
  unfold S_num at h
  split at h <;> simp only [Option.some.injEq, Prod.mk.injEq, reduceCtorEq] at h
  rename_i n
  obtain ⟨rfl, rfl, rfl⟩ := h
  refine SpecOK.wp0 (prg hP) [] 0 .nil (hP ▸ Tryz.func65) rfl rfl rfl ?_
  rw [nf_cnum]
  unfold numF
  exact condP_intro (fun h => by rw [h]; exact ⟨rfl, rfl⟩) (fun h => by rw [h]; exact ⟨rfl, rfl⟩)

theorem calv_ok (hP : C.P = Tryz.prog) : SpecOK C 127 S_calv := by
  have _ : C.Loose := inferInstance
  rintro args objs U Os vc h hvc
  unfold S_calv at h
  split at h <;> simp only [Option.some.injEq, Prod.mk.injEq, reduceCtorEq] at h
  rename_i n
  obtain ⟨rfl, rfl, rfl⟩ := h
  refine SpecOK.wp0 (prg hP) [] 0 .nil (hP ▸ Tryz.func127) rfl rfl rfl ?_
  rw [nf_calv]
  exact condP_intro (fun h => by rw [h]; exact ⟨rfl, rfl⟩) (fun h => by rw [h]; exact ⟨rfl, rfl⟩)

theorem weekday_ok (hP : C.P = Tryz.prog) : SpecOK C 98 S_weekday := by
  rintro args objs U Os vc h hvc
  unfold S_weekday at h
  split at h <;> simp only [Option.some.injEq, Prod.mk.injEq, reduceCtorEq] at h
  rename_i n
  obtain ⟨rfl, rfl, rfl⟩ := h
  refine SpecOK.wp0 (prg hP) [(127, .det S_calv)] 0 (.cons (calv_ok hP) .nil) (hP ▸ Tryz.func98) rfl rfl rfl ?_
  rw [nf_weekday]
  refine ⟨trivial, condP_not (fun h => by rw [h]; exact ⟨rfl, rfl⟩) (fun h => ⟨by decide, ?_⟩)⟩
  rw [h]
  have h0 : 0 ≤ n := of_decide_eq_true (Bool.and_eq_true_iff.1 h).1
  exact ⟨by rw [Int.tmod_eq_emod_of_nonneg h0]; rfl, rfl⟩

theorem slot_ok (hP : C.P = Tryz.prog) (hL : ∀ w, C.laid w → LaidW w) : SpecOK C 67 S_slot := by
  rintro args objs U Os vc h hvc
  unfold S_slot at h
  split at h <;> simp only [Option.some.injEq, Prod.mk.injEq, reduceCtorEq] at h
  rename_i o p per
  obtain ⟨rfl, rfl, rfl⟩ := h
  refine SpecOK.wp0 (prg hP) [(64, .det S_cname), (92, .det S_validID)] 0 (.cons (cname_ok hP hL) (.cons (validID_ok hP (trim_ok hP)) .nil)) (hP ▸ Tryz.func67) rfl rfl rfl ?_
  rw [nf_slot]
  unfold slotF
  exact ⟨hvc, condP_intro (fun h1 => ⟨trivial, condP_intro (fun h2 => condP_intro (fun h3 => by rw [h1, h2, h3]; exact ⟨rfl, rfl⟩) (fun h3 => by rw [h1, h2, h3]; exact ⟨rfl, rfl⟩)) (fun h2 => by rw [h1, h2]; exact ⟨rfl, rfl⟩)⟩) (fun h1 => by rw [h1]; exact ⟨rfl, rfl⟩)⟩

theorem wk_neg (day : Int) : decide ((bif decide (0 ≤ day) && decide (day ≤ 182620) then day % 7 else -1) < 0) = !(decide (0 ≤ day) && decide (day ≤ 182620)) := by
  cases h : decide (0 ≤ day) && decide (day ≤ 182620) with
  | true =>
    show decide (day % 7 < 0) = false
    rw [decide_eq_false]
    have := Int.emod_nonneg day (show (7 : Int) ≠ 0 by decide)
    omega
  | false => rfl

theorem visit_ok (hP : C.P = Tryz.prog) (hL : ∀ w, C.laid w → LaidW w) : SpecOK C 66 S_visit := by
  rintro args objs U Os vc h hvc
  unfold S_visit at h
  split at h <;> simp only [Option.some.injEq, Prod.mk.injEq, reduceCtorEq] at h
  rename_i o p per day st pr rep
  obtain ⟨rfl, rfl, rfl⟩ := h
  refine SpecOK.wp0 (prg hP) [(67, .det S_slot), (92, .det S_validID), (98, .det S_weekday)] 0 (.cons (slot_ok hP hL) (.cons (validID_ok hP (trim_ok hP)) (.cons (weekday_ok hP) .nil))) (hP ▸ Tryz.func66) rfl rfl rfl ?_
  rw [nf_visit, wk_neg]
  refine ⟨hvc, condP_not (fun h1 => ?_) (fun h1 => ⟨trivial, condP_not (fun h2 => ?_) (fun h2 => ?_)⟩)⟩
  · unfold visF; simp [h1]
  · unfold visF; simp [h1, h2]
  have hv : visF ⟨o, p, per, day, st, pr, rep⟩ = (bif decide (st = 1) || decide (st = 2) then decide (1 ≤ pr) && decide (pr ≤ 1099511627776) && decide (rep = [])
    else bif decide (st = 3) || decide (st = 4) then decide (pr = 0) && decide (rep = [])
    else bif decide (st = 5) then decide (1 ≤ pr) && decide (pr ≤ 1099511627776) && validIDF rep && !decide (rep = p) else false) := by
    unfold visF; simp only [h1, Bool.true_and, h2]
  rw [hv]
  have e1 : decide (1 ≤ pr) = !decide (pr < 1) := by by_cases h : pr < 1 <;> simp [h] <;> omega
  have e2 : decide (pr ≤ 1099511627776) = !decide (1099511627776 < pr) := by by_cases h : 1099511627776 < pr <;> simp [h] <;> omega
  rw [e1, e2]
  clear hv h1 h2 e1 e2
  by_cases s1 : st = 1
  · subst s1
    generalize decide (pr < 1) = b1, decide (1099511627776 < pr) = b2, decide (pr = 0) = b3, decide (rep = p) = b4, decide (rep = []) = b5, validIDF rep = b6
    cases b1 <;> cases b2 <;> exact ⟨rfl, rfl⟩
  by_cases s2 : st = 2
  · subst s2
    generalize decide (pr < 1) = b1, decide (1099511627776 < pr) = b2, decide (pr = 0) = b3, decide (rep = p) = b4, decide (rep = []) = b5, validIDF rep = b6
    cases b1 <;> cases b2 <;> exact ⟨rfl, rfl⟩
  by_cases s3 : st = 3
  · subst s3
    generalize decide (pr < 1) = b1, decide (1099511627776 < pr) = b2, decide (pr = 0) = b3, decide (rep = p) = b4, decide (rep = []) = b5, validIDF rep = b6
    cases b3 <;> exact ⟨rfl, rfl⟩
  by_cases s4 : st = 4
  · subst s4
    generalize decide (pr < 1) = b1, decide (1099511627776 < pr) = b2, decide (pr = 0) = b3, decide (rep = p) = b4, decide (rep = []) = b5, validIDF rep = b6
    cases b3 <;> exact ⟨rfl, rfl⟩
  by_cases s5 : st = 5
  · subst s5
    generalize decide (pr < 1) = b1, decide (1099511627776 < pr) = b2, decide (pr = 0) = b3, decide (rep = p) = b4, decide (rep = []) = b5, validIDF rep = b6
    cases b1 <;> cases b2 <;> cases b6 <;> first | exact ⟨rfl, rfl⟩ | exact ⟨trivial, rfl, rfl⟩
  rw [decide_eq_false s1, decide_eq_false s2, decide_eq_false s3, decide_eq_false s4, decide_eq_false s5]
  exact ⟨rfl, rfl⟩

theorem msg_ok (hP : C.P = Tryz.prog) (hL : ∀ w, C.laid w → LaidW w) : SpecOK C 33 S_msg := by
  rintro args objs U Os vc h hvc
  unfold S_msg at h
  split at h <;> simp only [Option.some.injEq, Prod.mk.injEq, reduceCtorEq] at h
  rename_i dev seq kind o p per day st pr rep o2 p2 per2 dev2 num
  obtain ⟨rfl, rfl, rfl⟩ := h
  refine SpecOK.wp0 (prg hP) [(64, .det S_cname), (67, .det S_slot), (66, .det S_visit), (65, .det S_num)] 0 (.cons (cname_ok hP hL) (.cons (slot_ok hP hL) (.cons (visit_ok hP hL) (.cons (cnum_ok hP) .nil)))) (hP ▸ Tryz.func33) rfl rfl rfl ?_
  have nf := fun R => nf_msg ⟨dev, seq, kind, ⟨o, p, per, day, st, pr, rep⟩, ⟨o2, p2, per2, dev2, num⟩⟩ R
  refine (nf _).mpr ?_
  clear nf
  obtain ⟨l1, l2, l3, l4⟩ := hvc
  unfold msgF VT.nil DT.nil
  dsimp only
  generalize (decide (o = []) && (decide (p = []) && (decide (per = 0) && (decide (day = 0) && (decide (st = 0) && (decide (pr = 0) && decide (rep = []))))))) = vn
  generalize (decide (o2 = []) && (decide (p2 = []) && (decide (per2 = 0) && (decide (dev2 = []) && decide (num = 0))))) = dn
  generalize nameF dev = b1, numF seq = b2, visF ⟨o, p, per, day, st, pr, rep⟩ = b3, slotF o2 p2 per2 = b4, nameF dev2 = b5, numF num = b6
  refine ⟨l1, ?_⟩
  cases b1
  · exact ⟨rfl, rfl⟩
  refine ⟨trivial, ?_⟩
  cases b2
  · exact ⟨rfl, rfl⟩
  by_cases k1 : kind = 1
  · subst k1
    refine ⟨l2, ?_⟩
    cases b3 <;> cases dn <;> exact ⟨rfl, rfl⟩
  by_cases k2 : kind = 2
  · subst k2
    cases vn
    · exact ⟨rfl, rfl⟩
    refine ⟨l3, ?_⟩
    cases b4
    · exact ⟨rfl, rfl⟩
    refine ⟨l4, ?_⟩
    cases b5
    · exact ⟨rfl, rfl⟩
    refine ⟨trivial, ?_⟩
    cases b6 <;> exact ⟨rfl, rfl⟩
  rw [decide_eq_false k1, decide_eq_false k2]
  exact ⟨rfl, rfl⟩
end Go.Eng
/- Merge at messages. -/
namespace Go.Eng
open Go.Proofs Go.RowKit
variable {C : Ctx} [C.Loose]
set_option maxRecDepth 20000
theorem nf_mrg (g : Nat → MG) (n : Nat) (h : Nat → MG) (m : Nat) (R : AV → List (Nat × AObj) → Prop) : wpFn te [(72, .rel R_concat), (33, .det S_msg), (73, .rel R_sortM), (75, .rel R_cmpct)] [(3, L_mg (catG (nn2 n m) (gg2 g h) 2) (sumN (nn2 n m) 2))] 0 Tryz.f38 [.view 15 n (mgRow g), .view 15 m (mgRow h)] [] R = ((2 ≤ 16777216 ∧ 1 = 1 ∧ 2 ≤ 9223372036854775807) ∧ (∀ (i : Nat), i < 2 → nrefL (chunkA (TI.sz (TI.mk (TypeDesc.slice (56 : TypeId)) 1 24 (Value.slice none 0 0) false)) (.view 15 n (mgRow g) :: .view 15 m (mgRow h) :: List.append [] (List.flatten (List.replicate (nat_lit 0) [.nil]))) i) = true) ∧ ∃ (nn : Nat → Nat), ∃ (gg : Nat → Nat → MG), 58 = 58 ∧ false = false ∧ 2 = 2 ∧ 2 ≤ 1000 ∧ (∀ (i : Nat), i < 2 → [AV.view 15 (nn i) (mgRow (gg i))] = chunkA (TI.sz (TI.mk (TypeDesc.slice (56 : TypeId)) 1 24 (Value.slice none 0 0) false)) (.view 15 n (mgRow g) :: .view 15 m (mgRow h) :: List.append [] (List.flatten (List.replicate (nat_lit 0) [.nil]))) i) ∧ sumN nn 2 ≤ 1000000 ∧ (∀ (i : Nat), i < 2 → true = true) ∧ (TEq [(5, .own 0 0), (11, .view 15 (sumN nn 2) (mgRow (catG nn gg 2))), (12, .int .i64 (↑(sumN nn 2) : Int)), (13, .int .i64 0)] [(5, .own 0 0), (11, .view 15 (sumN (nn2 n m) 2) (mgRow (catG (nn2 n m) (gg2 g h) 2))), (12, .int .i64 (↑(sumN (nn2 n m) 2) : Int)), (13, .int .i64 (↑0 : Int))] ∧ RowsEq [(0, .row 56 15 0 (fun (x : Nat) => []) false)] [(0, .row 56 15 0 (mgRow (atM (flL (catG (nn2 n m) (gg2 g h) 2) 0))) false)]) ∧ sumN (nn2 n m) 2 ≤ 200000 ∧ (∀ (i : Nat), i < sumN (nn2 n m) 2 → MG.Sm (catG (nn2 n m) (gg2 g h) 2 i)) ∧ (∀ (i : Nat), i < List.length (flL (catG (nn2 n m) (gg2 g h) 2) (sumN (nn2 n m) 2)) → true = true) ∧ 56 = 56 ∧ false = false ∧ List.length (flL (catG (nn2 n m) (gg2 g h) 2) (sumN (nn2 n m) 2)) = List.length (flL (catG (nn2 n m) (gg2 g h) 2) (sumN (nn2 n m) 2)) ∧ List.length (flL (catG (nn2 n m) (gg2 g h) 2) (sumN (nn2 n m) 2)) ≤ 1000000 ∧ mgRow (atM (flL (catG (nn2 n m) (gg2 g h) 2) (sumN (nn2 n m) 2))) = mgRow (mgOf (mgRow (atM (flL (catG (nn2 n m) (gg2 g h) 2) (sumN (nn2 n m) 2))))) ∧ ∀ (h_1 : Nat → MG), List.Perm (lst h_1 (List.length (flL (catG (nn2 n m) (gg2 g h) 2) (sumN (nn2 n m) 2)))) (lst (mgOf (mgRow (atM (flL (catG (nn2 n m) (gg2 g h) 2) (sumN (nn2 n m) 2))))) (List.length (flL (catG (nn2 n m) (gg2 g h) 2) (sumN (nn2 n m) 2)))) → (∀ (i j : Nat), i < j → j < List.length (flL (catG (nn2 n m) (gg2 g h) 2) (sumN (nn2 n m) 2)) → ¬ordM (h_1 j) (h_1 i) < (0 : Int)) → (∀ (i : Nat), i < List.length (flL (catG (nn2 n m) (gg2 g h) 2) (sumN (nn2 n m) 2)) → true = true) ∧ (∀ (i : Nat), i < List.length (flL (catG (nn2 n m) (gg2 g h) 2) (sumN (nn2 n m) 2)) → true = true) ∧ 56 = 56 ∧ false = false ∧ List.length (flL (catG (nn2 n m) (gg2 g h) 2) (sumN (nn2 n m) 2)) = List.length (flL (catG (nn2 n m) (gg2 g h) 2) (sumN (nn2 n m) 2)) ∧ List.length (flL (catG (nn2 n m) (gg2 g h) 2) (sumN (nn2 n m) 2)) ≤ 1000000 ∧ mgRow h_1 = mgRow (mgOf (mgRow h_1)) ∧ ∀ (k : Nat) (h_2 : Nat → MG), lst h_2 k = ddL (mgOf (mgRow h_1)) (List.length (flL (catG (nn2 n m) (gg2 g h) 2) (sumN (nn2 n m) 2))) → (∀ (i : Nat), i < k → true = true) ∧ (∀ (i : Nat), i < k → true = true) ∧ ∃ (O' : List (Nat × AObj)), RowsEq [(0, .row 56 15 k (mgRow h_2) false)] O' ∧ R (.own 0 k) O') := by kernel_rfl
theorem nf_mg_round (g : Nat → MG) (n k : Nat) (P : Nat → Prop) (R : Exit → St → Prop) : roundP ⟨te, [(33, .det S_msg)], [], 0, 29, 0⟩ (loopB Tryz.f38 3) [5, 11, 12, 13] [5] [] (S_mg g n) P R (S_mg g n k) = (condP (decide ((↑k : Int) < (↑n : Int))) (((0 : Int) ≤ (↑k : Int) ∧ (↑k : Int) < (↑n : Int) ∧ 15 = 15) ∧ (List.length (MG.dev (g (Int.toNat (↑k : Int)))) < 4294967281 ∧ List.length (VT.o (MG.v (g (Int.toNat (↑k : Int))))) < 4294967281 ∧ List.length (DT.o (MG.d (g (Int.toNat (↑k : Int))))) < 4294967281 ∧ List.length (DT.dev (MG.d (g (Int.toNat (↑k : Int))))) < 4294967281) ∧ condP (decide (msgF (MG.mk (MG.dev (g (Int.toNat (↑k : Int)))) (MG.seq (g (Int.toNat (↑k : Int)))) (MG.kind (g (Int.toNat (↑k : Int)))) (VT.mk (VT.o (MG.v (g (Int.toNat (↑k : Int))))) (VT.p (MG.v (g (Int.toNat (↑k : Int))))) (VT.per (MG.v (g (Int.toNat (↑k : Int))))) (VT.day (MG.v (g (Int.toNat (↑k : Int))))) (VT.st (MG.v (g (Int.toNat (↑k : Int))))) (VT.pr (MG.v (g (Int.toNat (↑k : Int))))) (VT.rep (MG.v (g (Int.toNat (↑k : Int)))))) (DT.mk (DT.o (MG.d (g (Int.toNat (↑k : Int))))) (DT.p (MG.d (g (Int.toNat (↑k : Int))))) (DT.per (MG.d (g (Int.toNat (↑k : Int))))) (DT.dev (MG.d (g (Int.toNat (↑k : Int))))) (DT.num (MG.d (g (Int.toNat (↑k : Int))))))) = (0 : Int))) ((15 ≤ 16777216 ∧ 15 = 15 ∧ 1 ≤ 9223372036854775807) ∧ ((1 ≤ 1 ∧ 15 = 15) ∧ List.length (flL g k) ≤ List.length (flL g k) ∧ 15 = 15 ∧ 56 = 56 ∧ 15 = 15 ∧ List.length (flL g k) + 1 ≤ 9223372036854775807 ∧ (List.length (flL g k) + 1) * TI.bytes (TI.mk (TypeDesc.struct #[Field.mk "Device" (9 : TypeId) 0 false "" "" 0, Field.mk "Sequence" (3 : TypeId) 1 false "" "" 16, Field.mk "Kind" (3 : TypeId) 2 false "" "" 24, Field.mk "Visit" (52 : TypeId) 3 false "" "" 32, Field.mk "Decision" (54 : TypeId) 10 false "" "" 112]) 15 176 (Value.agg #[Value.string (ByteArray.mk #[]), Value.int IntKind.i64 0, Value.int IntKind.i64 0, Value.string (ByteArray.mk #[]), Value.string (ByteArray.mk #[]), Value.int IntKind.i64 0, Value.int IntKind.i64 0, Value.int IntKind.i64 0, Value.int IntKind.i64 0, Value.string (ByteArray.mk #[]), Value.string (ByteArray.mk #[]), Value.string (ByteArray.mk #[]), Value.int IntKind.i64 0, Value.string (ByteArray.mk #[]), Value.int IntKind.i64 0]) true) ≤ 140737488355328) ∧ inR .i64 ((↑k : Int) + (1 : Int)) ∧ ∃ (i' : Nat), (TEq [(5, .own 0 (List.length (flL g k) + 1)), (11, .view 15 n (mgRow g)), (12, .int .i64 (↑n : Int)), (13, .int .i64 ((↑k : Int) + (1 : Int)))] [(5, .own 0 (List.length (flL g i'))), (11, .view 15 n (mgRow g)), (12, .int .i64 (↑n : Int)), (13, .int .i64 (↑i' : Int))] ∧ RowsEq [(0, .row 56 15 (List.length (flL g k) + 1) (apF (List.length (flL g k)) (mgRow (atM (flL g k))) (chunkA (TI.sz (TI.mk (TypeDesc.struct #[Field.mk "Device" (9 : TypeId) 0 false "" "" 0, Field.mk "Sequence" (3 : TypeId) 1 false "" "" 16, Field.mk "Kind" (3 : TypeId) 2 false "" "" 24, Field.mk "Visit" (52 : TypeId) 3 false "" "" 32, Field.mk "Decision" (54 : TypeId) 10 false "" "" 112]) 15 176 (Value.agg #[Value.string (ByteArray.mk #[]), Value.int IntKind.i64 0, Value.int IntKind.i64 0, Value.string (ByteArray.mk #[]), Value.string (ByteArray.mk #[]), Value.int IntKind.i64 0, Value.int IntKind.i64 0, Value.int IntKind.i64 0, Value.int IntKind.i64 0, Value.string (ByteArray.mk #[]), Value.string (ByteArray.mk #[]), Value.string (ByteArray.mk #[]), Value.int IntKind.i64 0, Value.string (ByteArray.mk #[]), Value.int IntKind.i64 0]) true)) (.str (MG.dev (g (Int.toNat (↑k : Int)))) :: .int .i64 (MG.seq (g (Int.toNat (↑k : Int)))) :: .int .i64 (MG.kind (g (Int.toNat (↑k : Int)))) :: .str (VT.o (MG.v (g (Int.toNat (↑k : Int))))) :: .str (VT.p (MG.v (g (Int.toNat (↑k : Int))))) :: .int .i64 (VT.per (MG.v (g (Int.toNat (↑k : Int))))) :: .int .i64 (VT.day (MG.v (g (Int.toNat (↑k : Int))))) :: .int .i64 (VT.st (MG.v (g (Int.toNat (↑k : Int))))) :: .int .i64 (VT.pr (MG.v (g (Int.toNat (↑k : Int))))) :: .str (VT.rep (MG.v (g (Int.toNat (↑k : Int))))) :: .str (DT.o (MG.d (g (Int.toNat (↑k : Int))))) :: .str (DT.p (MG.d (g (Int.toNat (↑k : Int))))) :: .int .i64 (DT.per (MG.d (g (Int.toNat (↑k : Int))))) :: .str (DT.dev (MG.d (g (Int.toNat (↑k : Int))))) :: .int .i64 (DT.num (MG.d (g (Int.toNat (↑k : Int))))) :: List.append [] (List.flatten (List.replicate (nat_lit 0) [.str ([]), .int .i64 0, .int .i64 0, .str ([]), .str ([]), .int .i64 0, .int .i64 0, .int .i64 0, .int .i64 0, .str ([]), .str ([]), .str ([]), .int .i64 0, .str ([]), .int .i64 0]))))) false)] [(0, .row 56 15 (List.length (flL g i')) (mgRow (atM (flL g i'))) false)]) ∧ P i') (inR .i64 ((↑k : Int) + (1 : Int)) ∧ ∃ (i' : Nat), (TEq [(5, .own 0 (List.length (flL g k))), (11, .view 15 n (mgRow g)), (12, .int .i64 (↑n : Int)), (13, .int .i64 ((↑k : Int) + (1 : Int)))] [(5, .own 0 (List.length (flL g i'))), (11, .view 15 n (mgRow g)), (12, .int .i64 (↑n : Int)), (13, .int .i64 (↑i' : Int))] ∧ RowsEq [(0, .row 56 15 (List.length (flL g k)) (mgRow (atM (flL g k))) false)] [(0, .row 56 15 (List.length (flL g i')) (mgRow (atM (flL g i'))) false)]) ∧ P i')) ((∀ (i : Nat), i < List.length (flL g k) → true = true) ∧ ∃ (O' : List (Nat × AObj)), RowsEq [(0, .row 56 15 (List.length (flL g k)) (mgRow (atM (flL g k))) false)] O' ∧ R (.exit 0) (St.mk [(5, .own 0 (List.length (flL g k)))] O' 1 []))) := by kernel_rfl

theorem ddL_sorted {h : Nat → MG} {n : Nat} (hs : ∀ i j, i < j → j < n → ¬ ordM (h j) (h i) < 0) : Asc ordM (ddL h n) ∧ ∀ x, x ∈ ddL h n ↔ x ∈ lst h n := by
  have le : ∀ i j, i < j → j < n → ordM (h i) (h j) ≤ 0 := fun i j hij hj => by
    have := hs i j hij hj
    rw [ordM_preC.neg] at this
    omega
  have nk : ∀ j, 0 < j → keepF h j = true → h j ≠ h (j - 1) := fun j hj hk e => by
    rw [keepF_pos hj, eqM_iff.2 e] at hk; cases hk
  refine ⟨?_, fun x => ⟨fun hx => ?_, fun hx => ?_⟩⟩
  · unfold Asc ddL
    refine List.pairwise_map.2 ((List.pairwise_lt_range.filter _).imp_of_mem fun {i j} hi hj hij => ?_)
    obtain ⟨hjn, hjk⟩ := List.mem_filter.1 hj
    have hjn := List.mem_range.1 hjn
    have l1 := le i j hij hjn
    rcases Int.lt_or_eq_of_le l1 with h0 | h0
    · exact h0
    · exfalso
      have e := ordM_zero.1 h0
      refine nk j (by omega) hjk ?_
      by_cases q : i = j - 1
      · rw [← q, e]
      · have l2 := le i (j - 1) (by omega) (by omega)
        have l3 := le (j - 1) j (by omega) hjn
        rw [e] at l2
        have := ordM_preC.neg (h (j - 1)) (h j)
        exact ordM_zero.1 (by omega)
  · unfold ddL at hx
    obtain ⟨i, hi, rfl⟩ := List.mem_map.1 hx
    exact List.mem_map.2 ⟨i, (List.mem_filter.1 hi).1, rfl⟩
  · obtain ⟨i, hi, rfl⟩ := List.mem_map.1 hx
    have key : ∀ i, i < n → h i ∈ ddL h n := fun i => by
      induction i with
      | zero => intro hi; exact List.mem_map.2 ⟨0, List.mem_filter.2 ⟨List.mem_range.2 hi, rfl⟩, rfl⟩
      | succ i ih =>
        intro hi
        cases q : keepF h (i + 1) with
        | true => exact List.mem_map.2 ⟨i + 1, List.mem_filter.2 ⟨List.mem_range.2 hi, q⟩, rfl⟩
        | false =>
          rw [keepF_pos (Nat.succ_pos i)] at q
          have e : eqM (h (i + 1)) (h i) = true := by
            have : i + 1 - 1 = i := rfl
            rw [this] at q
            cases r : eqM (h (i + 1)) (h i) with
            | true => rfl
            | false => rw [r] at q; cases q
          rw [eqM_iff.1 e]
          exact ih (by omega)
    exact key i (List.mem_range.1 hi)
theorem lst_atM (L : List MG) : lst (atM L) L.length = L := by
  apply List.ext_getElem
  · simp [lst]
  · intro i h1 h2
    simp [lst, atM, h2]
theorem lst_isM {g : Nat → MG} {L : List MG} {n : Nat} (h : lst g n = L) : n = L.length ∧ ∀ i, i < n → g i = atM L i := by
  subst h
  refine ⟨by simp [lst], fun i hi => ?_⟩
  simp [lst, atM, hi]
theorem flL_succ (g : Nat → MG) (k : Nat) : flL g (k + 1) = flL g k ++ bif okM (g k) then [g k] else [] := by
  unfold flL
  rw [lst_snocM, List.filter_append]
  cases h : okM (g k) <;> simp [h]
theorem flL_len (g : Nat → MG) (k : Nat) : (flL g k).length ≤ k := by
  have := List.length_filter_le okM (lst g k)
  have e : (lst g k).length = k := by simp [lst]
  unfold flL; omega
theorem cat2 (g : Nat → MG) (n : Nat) (h : Nat → MG) (m : Nat) : sumN (nn2 n m) 2 = n + m ∧ lst (catG (nn2 n m) (gg2 g h) 2) (n + m) = lst g n ++ lst h m ∧ ∀ i, i < n + m → (i < n ∧ catG (nn2 n m) (gg2 g h) 2 i = g i) ∨ (i - n < m ∧ n ≤ i ∧ catG (nn2 n m) (gg2 g h) 2 i = h (i - n)) := by
  have s1 : sumN (nn2 n m) 1 = n := by simp [sumN, nn2]
  have at1 : ∀ i, i < n + m → (i < n ∧ catG (nn2 n m) (gg2 g h) 2 i = g i) ∨ (i - n < m ∧ n ≤ i ∧ catG (nn2 n m) (gg2 g h) 2 i = h (i - n)) := fun i hi => by
    by_cases q : i < n
    · refine .inl ⟨q, ?_⟩
      rw [catG, s1, if_pos q, catG]
      have : sumN (nn2 n m) 0 = 0 := rfl
      rw [this, if_neg (by omega)]
      rfl
    · refine .inr ⟨by omega, by omega, ?_⟩
      rw [catG, s1, if_neg q]
      rfl
  refine ⟨by rw [sumN, s1]; rfl, ?_, at1⟩
  apply List.ext_getElem
  · simp [lst]
  · intro i h1 h2
    have hi : i < n + m := by simpa [lst] using h1
    rcases at1 i hi with ⟨q, e⟩ | ⟨q1, q2, e⟩
    · rw [List.getElem_append_left (by simp [lst, q])]
      simp [lst, e]
    · rw [List.getElem_append_right (by simp [lst, q2])]
      simp [lst, e]

theorem mg_loop (hP : C.P = Tryz.prog) (hL : ∀ w, C.laid w → LaidW w) (g : Nat → MG) (n : Nat) : LoopOK C 0 29 (loopC Tryz.f38 3) (L_mg g n) := by
  rintro st Q ⟨h0, hn, hs, hQ⟩
  refine AWP.ownNil 5 56 15 ?_
  refine LoopOK.mk (prg hP) [(33, .det S_msg)] 0 (.cons (msg_ok hP hL) .nil) [5, 11, 12, 13] [5] [] (S_mg g n) (fun k => k ≤ n) (fun k => n - k) 0 (Nat.zero_le _) h0 (fun k hk => ?_) (fun i => ⟨fun _ _ => rfl, trivial⟩)
  rw [nf_mg_round, Int.toNat_natCast]
  have hlen := flL_len g k
  have hsu := flL_succ g k
  refine condP_dec (fun h1 => ?_) (fun h1 => ?_)
  · have hk := hs k (by omega)
    refine ⟨⟨by omega, by omega, rfl⟩, ⟨hk.a, hk.b, hk.c, hk.d⟩, condP_dec (fun q => ?_) (fun q => ?_)⟩
    · have q : msgF (g k) = 0 := q
      have e : flL g (k + 1) = flL g k ++ [g k] := by rw [hsu, show okM (g k) = true from decide_eq_true q]; rfl
      refine ⟨⟨by omega, rfl, by omega⟩, ⟨⟨Nat.le_refl _, rfl⟩, Nat.le_refl _, rfl, rfl, rfl, by omega, ?_⟩, by simp only [inR]; omega, k + 1, ?_, by omega, by omega⟩
      · show ((flL g k).length + 1) * 176 ≤ _
        omega
      · rw [e, List.length_append]
        refine ⟨rfl, ⟨rfl, rfl, rfl, rfl, rfl, fun j hj => ?_⟩, trivial⟩
        generalize flL g k = L at *
        unfold apF
        by_cases h : j < L.length
        · rw [if_pos h]
          have : atM (L ++ [g k]) j = atM L j := by simp [atM, List.getD_eq_getElem?_getD, List.getElem?_append_left h]
          unfold mgRow
          rw [this]
        · have hj : j = L.length := by omega
          subst hj
          rw [if_neg h, Nat.sub_self]
          have : atM (L ++ [g k]) L.length = g k := by simp [atM]
          unfold mgRow
          rw [this]; rfl
    · have q : ¬ msgF (g k) = 0 := q
      have e : flL g (k + 1) = flL g k := by rw [hsu, show okM (g k) = false from decide_eq_false q]; simp
      refine ⟨by simp only [inR]; omega, k + 1, ?_, by omega, by omega⟩
      rw [e]
      exact ⟨rfl, ⟨rfl, rfl, rfl, rfl, rfl, fun _ _ => rfl⟩, trivial⟩
  · have : k = n := by omega
    subst this
    exact ⟨fun _ _ => rfl, _, rowsEqR _, hQ⟩

theorem mrg_ok (hP : C.P = Tryz.prog) (hL : ∀ w, C.laid w → LaidW w) : SpecOK C 38 S_mrg := by
  rintro args objs U Os vc hh hvc
  unfold S_mrg at hh
  split at hh <;> simp only [Option.some.injEq, Prod.mk.injEq, reduceCtorEq] at hh
  rename_i n f m h
  obtain ⟨rfl, rfl, rfl⟩ := hh
  obtain ⟨hn, hm, hf, hh, s1, s2⟩ := hvc
  generalize mgOf f = g at *
  generalize mgOf h = j at *
  subst hf; subst hh
  refine SpecOK.wpL (prg hP) [(72, .rel R_concat), (33, .det S_msg), (73, .rel R_sortM), (75, .rel R_cmpct)] [(3, L_mg (catG (nn2 n m) (gg2 g j) 2) (sumN (nn2 n m) 2))] 0 (.cons (concat_ok hP) (.cons (msg_ok hP hL) (.cons (sortM_ok hP) (.cons (cmpct_ok hP) .nil)))) (hP ▸ Tryz.func38) rfl rfl rfl [(loopC Tryz.f38 3, L_mg (catG (nn2 n m) (gg2 g j) 2) (sumN (nn2 n m) 2))] (by kernel_rfl) ⟨mg_loop hP hL _ _, trivial⟩ ?_
  rw [nf_mrg]
  obtain ⟨c1, c2, c3⟩ := cat2 g n j m
  have two : ∀ {p : Nat → Prop}, p 0 → p 1 → ∀ i, i < 2 → p i := fun h0 h1 i hi => by
    match i, hi with
    | 0, _ => exact h0
    | 1, _ => exact h1
  have sm : ∀ i, i < n + m → (catG (nn2 n m) (gg2 g j) 2 i).Sm := fun i hi => by
    rcases c3 i hi with ⟨q, e⟩ | ⟨q1, q2, e⟩
    · rw [e]; exact s1 i q
    · rw [e]; exact s2 _ q1
  refine ⟨⟨by omega, rfl, by omega⟩, two rfl rfl, nn2 n m, gg2 g j, rfl, rfl, rfl, by omega, two rfl rfl, by rw [c1]; omega, two rfl rfl, ⟨rfl, ⟨rfl, rfl, rfl, rfl, rfl, fun i hi => absurd hi (Nat.not_lt_zero i)⟩, trivial⟩, ?_⟩
  have hfl : flL (catG (nn2 n m) (gg2 g j) 2) (n + m) = (lst g n ++ lst j m).filter okM := by unfold flL; rw [c2]
  have hlen := flL_len (catG (nn2 n m) (gg2 g j) 2) (n + m)
  have hLd : mrgL g n j m = mrgF (lst g n ++ lst j m) := rfl
  rw [c1]
  generalize catG (nn2 n m) (gg2 g j) 2 = cc at *
  generalize hF : flL cc (n + m) = Fl at *
  refine ⟨by omega, sm, fun _ _ => rfl, rfl, rfl, rfl, by omega, rfl, fun h1 hp hs => ⟨fun _ _ => rfl, fun _ _ => rfl, rfl, rfl, rfl, by omega, rfl, fun k h2 hd => ?_⟩⟩
  have hp : (lst h1 Fl.length).Perm (lst (atM Fl) Fl.length) := hp
  have hd : lst h2 k = ddL h1 Fl.length := hd
  rw [lst_atM] at hp
  obtain ⟨a1, a2⟩ := ddL_sorted hs
  have hM : ddL h1 Fl.length = mrgL g n j m := by
    refine mrgF_uniq a1 fun x => ?_
    rw [a2, hp.mem_iff, hfl, List.mem_filter]
    unfold okM
    rw [decide_eq_true_eq]
  rw [hM] at hd
  show _ ∧ _ ∧ ∃ O', RowsEq _ O' ∧ AV.own 0 k = .own 0 (mrgL g n j m).length ∧ O' = [(0, .row 56 15 (mrgL g n j m).length (mgRow (atM (mrgL g n j m))) false)]
  generalize mrgL g n j m = M at *
  obtain ⟨rfl, hat⟩ := lst_isM hd
  refine ⟨fun _ _ => rfl, fun _ _ => rfl, [(0, .row 56 15 M.length (mgRow (atM M)) false)], ⟨⟨rfl, rfl, rfl, rfl, rfl, fun i hi => ?_⟩, trivial⟩, rfl, rfl⟩
  unfold mgRow
  rw [hat i hi]
end Go.Eng
/- What the reference of messages finds: plain lists. -/
namespace Go.Eng

theorem atM_get {L : List MG} {i : Nat} (h : i < L.length) : atM L i = L[i] := by simp [atM, h]
theorem atM_mem {L : List MG} {i : Nat} (h : i < L.length) : atM L i ∈ L := by rw [atM_get h]; exact List.getElem_mem h
end Go.Eng
/- Resolve at few messages: plain lists. -/
namespace Go.Eng

end Go.Eng
/- The reference's Combine: the loops' states. -/
namespace Go.Eng

structure RX where
  k : Nat
  L : List RW
end Go.Eng
/- The reference of messages: what its small functions answer. -/
namespace Go.Eng

/-- Are two lists of messages the same? -/
def eqMs (g h : Nat → MG) : Nat → Bool
  | 0 => true
  | k + 1 => eqMs g h k && eqM (g k) (h k)
def S_sameM : Spec
  | [.view 15 n f, .view 15 m h], [] => some (.bool (decide (n = m) && eqMs (mgOf f) (mgOf h) n), [], n ≤ 1000000 ∧ f = mgRow (mgOf f) ∧ h = mgRow (mgOf h))
  | _, _ => none
def S_sm (g h : Nat → MG) (n k : Nat) : St := ⟨[(0, .view 15 n (mgRow g)), (1, .view 15 n (mgRow h)), (12, .int .i64 n), (13, .int .i64 k)], [], 0, []⟩
def L_sm (g h : Nat → MG) (n : Nat) : LSpec := fun st Q => canonIs te 0 [0, 1, 12, 13] st (S_sm g h n 0) ∧ n ≤ 1000000 ∧
  condP (eqMs g h n) (Q (.exit 0) ⟨[], [], 0, []⟩) (Q .ret ⟨[(4, .bool false)], [], 0, []⟩)
end Go.Eng
/- The laws of messages: plain lists. -/
namespace Go.Eng

theorem mrgF_left (A B : List MG) : mrgF (mrgF A ++ B) = mrgF (A ++ B) :=
  mrgF_uniq (mrgF_asc _) fun m => by rw [mrgF_mem, List.mem_append, mrgF_mem, List.mem_append]; grind
theorem mrgF_right (A B : List MG) : mrgF (A ++ mrgF B) = mrgF (A ++ B) :=
  mrgF_uniq (mrgF_asc _) fun m => by rw [mrgF_mem, List.mem_append, mrgF_mem, List.mem_append]; grind
theorem mrgL_L (L : List MG) (h : Nat → MG) (m : Nat) : mrgL (atM L) L.length h m = mrgF (L ++ lst h m) := by unfold mrgL; rw [lst_atM]
theorem mrgL_R (g : Nat → MG) (n : Nat) (L : List MG) : mrgL g n (atM L) L.length = mrgF (lst g n ++ L) := by unfold mrgL; rw [lst_atM]
theorem mrgL_comm (g : Nat → MG) (n : Nat) (h : Nat → MG) (m : Nat) : mrgL h m g n = mrgL g n h m :=
  mrgF_congr fun x => by rw [List.mem_append, List.mem_append]; exact or_comm
theorem mrgL_assoc (g : Nat → MG) (n : Nat) (h : Nat → MG) (m : Nat) (j : Nat → MG) (k : Nat) :
    mrgL (atM (mrgL g n h m)) (mrgL g n h m).length j k = mrgL g n (atM (mrgL h m j k)) (mrgL h m j k).length := by
  rw [mrgL_L, mrgL_R]
  unfold mrgL
  rw [mrgF_left, mrgF_right, List.append_assoc]
theorem mrgL_self (g : Nat → MG) (n : Nat) (h : Nat → MG) (m : Nat) : mrgL (atM (mrgL g n h m)) (mrgL g n h m).length (atM (mrgL g n h m)) (mrgL g n h m).length = mrgL g n h m := by
  rw [mrgL_L, lst_atM]
  unfold mrgL
  rw [mrgF_left, mrgF_right]
  exact mrgF_congr fun x => by simp only [List.mem_append]; grind
theorem mrgL_again (g : Nat → MG) (n : Nat) (h : Nat → MG) (m : Nat) : mrgL (atM (mrgL g n h m)) (mrgL g n h m).length g n = mrgL g n h m := by
  rw [mrgL_L]
  unfold mrgL
  rw [mrgF_left]
  exact mrgF_congr fun x => by simp only [List.mem_append]; grind
theorem mrgL_set {g : Nat → MG} {n : Nat} {t : Nat → MG} {k : Nat} (e : ∀ x, x ∈ lst t k ↔ x ∈ lst g n) (h : Nat → MG) (m : Nat) : mrgL t k h m = mrgL g n h m :=
  mrgF_congr fun x => by rw [List.mem_append, List.mem_append, e]
theorem eqMs_self (g : Nat → MG) : ∀ n, eqMs g g n = true
  | 0 => rfl
  | n + 1 => by rw [eqMs, eqMs_self g n, eqM_iff.2 rfl]; rfl
theorem sameM_true {X Y : List MG} (e : X = Y) : (decide (X.length = Y.length) && eqMs (atM X) (atM Y) X.length) = true := by
  subst e
  rw [decide_eq_true rfl, eqMs_self]; rfl
theorem mrgL_sm {g : Nat → MG} {n : Nat} {h : Nat → MG} {m : Nat} (hg : ∀ i, i < n → (g i).Sm) (hh : ∀ i, i < m → (h i).Sm) : ∀ i, i < (mrgL g n h m).length → (atM (mrgL g n h m) i).Sm := fun i hi => by
  have : atM (mrgL g n h m) i ∈ lst g n ++ lst h m := (mrgF_mem.1 (atM_mem hi)).1
  rcases List.mem_append.1 this with q | q
  · obtain ⟨j, hj, e⟩ := List.mem_map.1 q
    rw [← e]; exact hg j (List.mem_range.1 hj)
  · obtain ⟨j, hj, e⟩ := List.mem_map.1 q
    rw [← e]; exact hh j (List.mem_range.1 hj)
end Go.Eng
/- The laws of messages: what their helpers answer. -/
namespace Go.Eng

structure MgS where
  c : Nat
  g : Nat → MG
  a : Int
def MG.put (g : Nat → MG) (k : Nat) (r : MG) (i : Nat) : MG := if i < k then g i else r
def S_msgs (n : Nat) (v : Nat → Int) (N : Int) (i : MgS) : St := ⟨[(0, .ptr 0 0), (5, .own 1 i.c), (9, .int .i64 N), (10, .int .i64 i.c)],
  [(0, .cells [.view 1 n (intRow v), .int .i64 i.a] 28), (1, .row 56 15 i.c (mgRow i.g) false)], 2, []⟩
def L_msgs (n : Nat) (v : Nat → Int) (a N : Int) : LSpec := fun st Q => canonIs te 1 [0, 5, 9, 10] (ownNil 5 56 15 st) (S_msgs n v N ⟨0, fun _ => default, a⟩) ∧ (0 ≤ N ∧ N ≤ 100) ∧ (0 ≤ a ∧ a ≤ 4611686018427375000) ∧
  ∀ i : MgS, i.c = N.toNat → (a ≤ i.a ∧ i.a ≤ a + 10 * i.c) → (∀ j, j < i.c → (i.g j).Made) → Q (.exit 0) ⟨[(5, .own 1 i.c)], [(0, .cells [.view 1 n (intRow v), .int .i64 i.a] 28), (1, .row 56 15 i.c (mgRow i.g) false)], 2, []⟩
def R_msgs : RSpec
  | [.ptr 0 0, .int .i64 most], [.cells [.view sz n f, .int .i64 a] t], R => t = 28 ∧ sz = 1 ∧ f = intRow (vInt f) ∧ (0 ≤ a ∧ a ≤ 4611686018427370000) ∧ (0 ≤ most ∧ most ≤ 90) ∧
      ∀ (c : Nat) (g : Nat → MG) (a' : Int), c ≤ most.toNat → (a ≤ a' ∧ a' ≤ a + 1000) → (∀ j, j < c → (g j).Made) →
      R (.own 1 c) [(0, .cells [.view 1 n f, .int .i64 a'] 28), (1, .row 56 15 c (mgRow g) false)]
  | _, _, _ => False
/-- A row that holds messages, with short texts. -/
structure RE (f : Nat → List AV) (n : Nat) : Prop where
  eq : ∀ i, i < n → f i = mgRow (mgOf f) i
structure RM (f : Nat → List AV) (n : Nat) : Prop where
  eq : ∀ i, i < n → f i = mgRow (mgOf f) i
  sm : ∀ i, i < n → (mgOf f i).Sm
/-- A made message with at most one fault: a message with short texts. -/
def R_sp11 : RSpec
  | [.ptr 0 0], [.cells [.view sz n f, .int .i64 a] t], R => t = 28 ∧ sz = 1 ∧ f = intRow (vInt f) ∧ (0 ≤ a ∧ a ≤ 4611686018427380000) ∧
      ∀ (m : MG) (a' : Int), m.Sm → (a ≤ a' ∧ a' ≤ a + 12) →
      R (.agg [.str m.dev, .int .i64 m.seq, .int .i64 m.kind, .str m.v.o, .str m.v.p, .int .i64 m.v.per, .int .i64 m.v.day, .int .i64 m.v.st, .int .i64 m.v.pr, .str m.v.rep, .str m.d.o, .str m.d.p, .int .i64 m.d.per, .str m.d.dev, .int .i64 m.d.num]) [(0, .cells [.view 1 n f, .int .i64 a'] 28)]
  | _, _, _ => False
/-- Made messages, some with a fault, some twice. -/
def R_list : RSpec
  | [.ptr 0 0], [.cells [.view sz n f, .int .i64 a] t], R => t = 28 ∧ sz = 1 ∧ f = intRow (vInt f) ∧ (0 ≤ a ∧ a ≤ 4611686018427360000) ∧
      ∀ (c : Nat) (g : Nat → MG) (a' : Int), c ≤ 12 → (a ≤ a' ∧ a' ≤ a + 1100) → (∀ j, j < c → (g j).Sm) →
      R (.view 15 c (mgRow g)) [(0, .cells [.view 1 n f, .int .i64 a'] 28)]
  | _, _, _ => False
/-- A list in another order, some elements twice. -/
def R_turned : RSpec
  | [.ptr 0 0, .view 15 c q], [.cells [.view sz n f, .int .i64 a] t], R => t = 28 ∧ sz = 1 ∧ f = intRow (vInt f) ∧ (0 ≤ a ∧ a ≤ 4611686018427360000) ∧ q = mgRow (mgOf q) ∧ c ≤ 100 ∧
      ∀ (k : Nat) (h : Nat → MG) (a' : Int), k ≤ 2 * c → (a ≤ a' ∧ a' ≤ a + 200) → (∀ x, x ∈ lst h k ↔ x ∈ lst (mgOf q) c) →
      R (.view 15 k (mgRow h)) [(0, .cells [.view 1 n f, .int .i64 a'] 28)]
  | _, _, _ => False
def S_awake11 : Spec
  | [], [] => some (.bool true, [], True)
  | _, _ => none
/-- Resolve, handed a row of our own. -/
def S_resolveO : Spec
  | [.own 0 n, .str o, .str p, .int .i64 per], [.row _ 15 m f _] =>
      some (.tuple [.agg [.str (resF (mgOf f) n o p per).1.o, .str (resF (mgOf f) n o p per).1.p, .int .i64 (resF (mgOf f) n o p per).1.per, .int .i64 (resF (mgOf f) n o p per).1.day, .int .i64 (resF (mgOf f) n o p per).1.st, .int .i64 (resF (mgOf f) n o p per).1.pr, .str (resF (mgOf f) n o p per).1.rep], .int .i64 (resF (mgOf f) n o p per).2], [],
        n = m ∧ n ≤ 100000 ∧ RM f n)
  | _, _ => none
/-- Merge, its answer told as a list. -/
def S_mrgV : Spec
  | [.view 15 n f, .view 15 m h], [] => some (.view 15 (mrgL (mgOf f) n (mgOf h) m).length (mgRow (atM (mrgL (mgOf f) n (mgOf h) m))), [],
      n ≤ 100000 ∧ m ≤ 100000 ∧ f = mgRow (mgOf f) ∧ h = mgRow (mgOf h) ∧ (∀ i, i < n → (mgOf f i).Sm) ∧ ∀ i, i < m → (mgOf h i).Sm)
  | _, _ => none
end Go.Eng
/- The laws of messages: the loops' states of list and turned. -/
namespace Go.Eng

structure LiS where
  j : Nat
  c : Nat
  g : Nat → MG
  a : Int
def S_li (n : Nat) (v : Nat → Int) (N : Int) (i : LiS) : St := ⟨[(0, .ptr 0 0), (3, .own 1 i.c), (7, .int .i64 N), (8, .int .i64 i.j)],
  [(0, .cells [.view 1 n (intRow v), .int .i64 i.a] 28), (1, .row 56 15 i.c (mgRow i.g) false)], 2, []⟩
def L_li (n : Nat) (v : Nat → Int) : LSpec := fun st Q => ∃ (N : Int) (c : Nat) (g : Nat → MG) (a : Int), canonIs te 1 [0, 3, 7, 8] st (S_li n v N ⟨0, c, g, a⟩) ∧ (0 ≤ N ∧ N ≤ 2) ∧ c ≤ 9 ∧ (0 ≤ a ∧ a ≤ 4611686018427365000) ∧ (∀ j, j < c → (g j).Sm) ∧
  ∀ i : LiS, i.c = c + N.toNat → (a ≤ i.a ∧ i.a ≤ a + 24) → (∀ j, j < i.c → (i.g j).Sm) → Q (.exit 0) ⟨[(0, .ptr 0 0), (3, .own 1 i.c)], [(0, .cells [.view 1 n (intRow v), .int .i64 i.a] 28), (1, .row 56 15 i.c (mgRow i.g) false)], 2, []⟩
structure TrS where
  k : Nat
  L : List MG
  a : Int
def S_tr (n : Nat) (v : Nat → Int) (g : Nat → MG) (c : Nat) (i : TrS) : St := ⟨[(0, .ptr 0 0), (5, .own 1 i.L.length), (10, .view 15 c (mgRow g)), (11, .int .i64 c), (12, .int .i64 i.k)],
  [(0, .cells [.view 1 n (intRow v), .int .i64 i.a] 28), (1, .row 56 15 i.L.length (mgRow (atM i.L)) false)], 2, []⟩
def L_tr (n : Nat) (v : Nat → Int) (a : Int) (g : Nat → MG) (c : Nat) : LSpec := fun st Q => canonIs te 1 [0, 5, 10, 11, 12] (ownNil 5 56 15 st) (S_tr n v g c ⟨0, [], a⟩) ∧ c ≤ 100 ∧ (0 ≤ a ∧ a ≤ 4611686018427365000) ∧
  ∀ i : TrS, i.L.length ≤ 2 * c → (a ≤ i.a ∧ i.a ≤ a + 2 * c) → (∀ x, x ∈ i.L ↔ x ∈ lst g c) → Q (.exit 0) ⟨[(5, .own 1 i.L.length)], [(0, .cells [.view 1 n (intRow v), .int .i64 i.a] 28), (1, .row 56 15 i.L.length (mgRow (atM i.L)) false)], 2, []⟩
end Go.Eng
