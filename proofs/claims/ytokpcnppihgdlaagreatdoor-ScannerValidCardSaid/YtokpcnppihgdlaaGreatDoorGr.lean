/- Lemmas that the tied card of ScannerValid is proved by. -/
import Derived.Test.YtokpcnppihgdlaaGreatDoorGn
import Derived.Test.YtokpcnppihgdlaaGreatDoorGq
import Derived.Test.YtokpcnppihgdlaaGreatDoorGo
import Derived.Test.YtokpcnppihgdlaaGreatDoorGm
/- Messages: what Validate answers. -/
namespace Go.Eng
open Go.Proofs Go.RowKit
variable {C : Ctx} [C.Loose]
set_option maxRecDepth 20000
theorem nf_cname (s : List UInt8) (R : AV → List (Nat × AObj) → Prop) : wpFn te [(97, .det S_val0)] [] 0 Tryz.f64 [.str s] [] R = ((2 < 4294967281 ∧ List.length s < 4294967281) ∧ R (.bool (decide ((valF [(48 : UInt8), 48, 48, 48, 48, 48, 48, 48] [(48 : UInt8), 49] s (4 : Int) (1 : Int) (1 : Int) 0 (fun (x : Nat) => []) fun (x : Nat) => []) = (0 : Int)))) []) := by kernel_rfl
theorem nf_cnum (n : Int) (R : AV → List (Nat × AObj) → Prop) : wpFn te [] [] 0 Tryz.f65 [.int .i64 n] [] R = (condP (decide ((1 : Int) ≤ n)) (R (.bool (decide (n ≤ (1048576 : Int)))) []) (R (.bool false) [])) := by kernel_rfl
theorem nf_calv (n : Int) (R : AV → List (Nat × AObj) → Prop) : wpFn te [] [] 0 Tryz.f127 [.int .i64 n] [] R = (condP (decide ((0 : Int) ≤ n)) (R (.bool (decide (n ≤ (182620 : Int)))) []) (R (.bool false) [])) := by kernel_rfl
theorem nf_weekday (n : Int) (R : AV → List (Nat × AObj) → Prop) : wpFn te [(127, .det S_calv)] [] 0 Tryz.f98 [.int .i64 n] [] R = (True ∧ condP (!(decide ((0 : Int) ≤ n) && decide (n ≤ (182620 : Int)))) (R (.int .i64 (-1 : Int)) []) ((7 : Int) ≠ (0 : Int) ∧ R (.int .i64 (Int.tmod n (7 : Int))) [])) := by kernel_rfl
theorem nf_slot (o p : List UInt8) (per : Int) (R : AV → List (Nat × AObj) → Prop) : wpFn te [(64, .det S_cname), (92, .det S_validID)] [] 0 Tryz.f67 [.str o, .str p, .int .i64 per] [] R = (List.length o < 4294967281 ∧ condP (nameF o) (True ∧ condP (validIDF p) (condP (decide ((0 : Int) ≤ per)) (R (.bool (decide (per ≤ (5999 : Int)))) []) (R (.bool false) [])) (R (.bool false) [])) (R (.bool false) [])) := by kernel_rfl
theorem nf_visit (o p : List UInt8) (per day st pr : Int) (rep : List UInt8) (R : AV → List (Nat × AObj) → Prop) : wpFn te [(67, .det S_slot), (92, .det S_validID), (98, .det S_weekday)] [] 0 Tryz.f66 [.agg [.str o, .str p, .int .i64 per, .int .i64 day, .int .i64 st, .int .i64 pr, .str rep]] [] R = (List.length o < 4294967281 ∧ condP (!slotF o p per) (R (.bool false) []) (True ∧ condP (decide ((bif decide ((0 : Int) ≤ day) && decide (day ≤ (182620 : Int)) then day % (7 : Int) else (-1 : Int)) < (0 : Int))) (R (.bool false) []) (condP (decide (st = (1 : Int))) (condP (decide (st = (1 : Int))) (condP (decide (pr < (1 : Int))) (R (.bool false) []) (condP (decide ((1099511627776 : Int) < pr)) (R (.bool false) []) (condP (decide (st = (5 : Int))) (True ∧ condP (validIDF rep) (R (.bool !decide (rep = p)) []) (R (.bool false) [])) (R (.bool (decide (rep = []))) [])))) (condP (decide (st = (3 : Int))) (condP (decide (st = (3 : Int))) (condP (!decide (pr = (0 : Int))) (R (.bool false) []) (condP (decide (st = (5 : Int))) (True ∧ condP (validIDF rep) (R (.bool !decide (rep = p)) []) (R (.bool false) [])) (R (.bool (decide (rep = []))) []))) (R (.bool false) [])) (condP (decide (st = (4 : Int))) (condP (!decide (pr = (0 : Int))) (R (.bool false) []) (condP (decide (st = (5 : Int))) (True ∧ condP (validIDF rep) (R (.bool !decide (rep = p)) []) (R (.bool false) [])) (R (.bool (decide (rep = []))) []))) (R (.bool false) [])))) (condP (decide (st = (2 : Int))) (condP (decide (st = (2 : Int))) (condP (decide (pr < (1 : Int))) (R (.bool false) []) (condP (decide ((1099511627776 : Int) < pr)) (R (.bool false) []) (condP (decide (st = (5 : Int))) (True ∧ condP (validIDF rep) (R (.bool !decide (rep = p)) []) (R (.bool false) [])) (R (.bool (decide (rep = []))) [])))) (condP (decide (st = (3 : Int))) (condP (decide (st = (3 : Int))) (condP (!decide (pr = (0 : Int))) (R (.bool false) []) (condP (decide (st = (5 : Int))) (True ∧ condP (validIDF rep) (R (.bool !decide (rep = p)) []) (R (.bool false) [])) (R (.bool (decide (rep = []))) []))) (R (.bool false) [])) (condP (decide (st = (4 : Int))) (condP (!decide (pr = (0 : Int))) (R (.bool false) []) (condP (decide (st = (5 : Int))) (True ∧ condP (validIDF rep) (R (.bool !decide (rep = p)) []) (R (.bool false) [])) (R (.bool (decide (rep = []))) []))) (R (.bool false) [])))) (condP (decide (st = (5 : Int))) (condP (decide (pr < (1 : Int))) (R (.bool false) []) (condP (decide ((1099511627776 : Int) < pr)) (R (.bool false) []) (condP (decide (st = (5 : Int))) (True ∧ condP (validIDF rep) (R (.bool !decide (rep = p)) []) (R (.bool false) [])) (R (.bool (decide (rep = []))) [])))) (condP (decide (st = (3 : Int))) (condP (decide (st = (3 : Int))) (condP (!decide (pr = (0 : Int))) (R (.bool false) []) (condP (decide (st = (5 : Int))) (True ∧ condP (validIDF rep) (R (.bool !decide (rep = p)) []) (R (.bool false) [])) (R (.bool (decide (rep = []))) []))) (R (.bool false) [])) (condP (decide (st = (4 : Int))) (condP (!decide (pr = (0 : Int))) (R (.bool false) []) (condP (decide (st = (5 : Int))) (True ∧ condP (validIDF rep) (R (.bool !decide (rep = p)) []) (R (.bool false) [])) (R (.bool (decide (rep = []))) []))) (R (.bool false) [])))))))) := by kernel_rfl
theorem nf_msg (m : MG) (R : AV → List (Nat × AObj) → Prop) : wpFn te [(64, .det S_cname), (67, .det S_slot), (66, .det S_visit), (65, .det S_num)] [] 0 Tryz.f33 [.agg [.str m.dev, .int .i64 m.seq, .int .i64 m.kind, .str m.v.o, .str m.v.p, .int .i64 m.v.per, .int .i64 m.v.day, .int .i64 m.v.st, .int .i64 m.v.pr, .str m.v.rep, .str m.d.o, .str m.d.p, .int .i64 m.d.per, .str m.d.dev, .int .i64 m.d.num]] [] R = (List.length (MG.dev m) < 4294967281 ∧ condP (!nameF (MG.dev m)) (R (.int .i64 110) []) (True ∧ condP (!numF (MG.seq m)) (R (.int .i64 111) []) (condP (!decide (MG.kind m = (1 : Int))) (condP (!decide (MG.kind m = (2 : Int))) (R (.int .i64 112) []) (condP (decide (MG.kind m = (1 : Int))) (List.length (VT.o (MG.v m)) < 4294967281 ∧ condP (!visF (VT.mk (VT.o (MG.v m)) (VT.p (MG.v m)) (VT.per (MG.v m)) (VT.day (MG.v m)) (VT.st (MG.v m)) (VT.pr (MG.v m)) (VT.rep (MG.v m)))) (R (.int .i64 113) []) (condP (decide (MG.kind m = (2 : Int))) (condP (!(decide (VT.o (MG.v m) = []) && (decide (VT.p (MG.v m) = []) && (decide (VT.per (MG.v m) = (0 : Int)) && (decide (VT.day (MG.v m) = (0 : Int)) && (decide (VT.st (MG.v m) = (0 : Int)) && (decide (VT.pr (MG.v m) = (0 : Int)) && decide (VT.rep (MG.v m) = [])))))))) (R (.int .i64 113) []) (condP (decide (MG.kind m = (1 : Int))) (condP (!(decide (DT.o (MG.d m) = []) && (decide (DT.p (MG.d m) = []) && (decide (DT.per (MG.d m) = (0 : Int)) && (decide (DT.dev (MG.d m) = []) && decide (DT.num (MG.d m) = (0 : Int))))))) (R (.int .i64 114) []) (condP (decide (MG.kind m = (2 : Int))) (List.length (DT.o (MG.d m)) < 4294967281 ∧ condP (slotF (DT.o (MG.d m)) (DT.p (MG.d m)) (DT.per (MG.d m))) (List.length (DT.dev (MG.d m)) < 4294967281 ∧ condP (nameF (DT.dev (MG.d m))) (True ∧ condP (!numF (DT.num (MG.d m))) (R (.int .i64 114) []) (R (.int .i64 0) [])) (R (.int .i64 114) [])) (R (.int .i64 114) [])) (R (.int .i64 0) []))) (condP (decide (MG.kind m = (2 : Int))) (List.length (DT.o (MG.d m)) < 4294967281 ∧ condP (slotF (DT.o (MG.d m)) (DT.p (MG.d m)) (DT.per (MG.d m))) (List.length (DT.dev (MG.d m)) < 4294967281 ∧ condP (nameF (DT.dev (MG.d m))) (True ∧ condP (!numF (DT.num (MG.d m))) (R (.int .i64 114) []) (R (.int .i64 0) [])) (R (.int .i64 114) [])) (R (.int .i64 114) [])) (R (.int .i64 0) [])))) (condP (decide (MG.kind m = (1 : Int))) (condP (!(decide (DT.o (MG.d m) = []) && (decide (DT.p (MG.d m) = []) && (decide (DT.per (MG.d m) = (0 : Int)) && (decide (DT.dev (MG.d m) = []) && decide (DT.num (MG.d m) = (0 : Int))))))) (R (.int .i64 114) []) (condP (decide (MG.kind m = (2 : Int))) (List.length (DT.o (MG.d m)) < 4294967281 ∧ condP (slotF (DT.o (MG.d m)) (DT.p (MG.d m)) (DT.per (MG.d m))) (List.length (DT.dev (MG.d m)) < 4294967281 ∧ condP (nameF (DT.dev (MG.d m))) (True ∧ condP (!numF (DT.num (MG.d m))) (R (.int .i64 114) []) (R (.int .i64 0) [])) (R (.int .i64 114) [])) (R (.int .i64 114) [])) (R (.int .i64 0) []))) (condP (decide (MG.kind m = (2 : Int))) (List.length (DT.o (MG.d m)) < 4294967281 ∧ condP (slotF (DT.o (MG.d m)) (DT.p (MG.d m)) (DT.per (MG.d m))) (List.length (DT.dev (MG.d m)) < 4294967281 ∧ condP (nameF (DT.dev (MG.d m))) (True ∧ condP (!numF (DT.num (MG.d m))) (R (.int .i64 114) []) (R (.int .i64 0) [])) (R (.int .i64 114) [])) (R (.int .i64 114) [])) (R (.int .i64 0) []))))) (condP (decide (MG.kind m = (2 : Int))) (condP (!(decide (VT.o (MG.v m) = []) && (decide (VT.p (MG.v m) = []) && (decide (VT.per (MG.v m) = (0 : Int)) && (decide (VT.day (MG.v m) = (0 : Int)) && (decide (VT.st (MG.v m) = (0 : Int)) && (decide (VT.pr (MG.v m) = (0 : Int)) && decide (VT.rep (MG.v m) = [])))))))) (R (.int .i64 113) []) (condP (decide (MG.kind m = (1 : Int))) (condP (!(decide (DT.o (MG.d m) = []) && (decide (DT.p (MG.d m) = []) && (decide (DT.per (MG.d m) = (0 : Int)) && (decide (DT.dev (MG.d m) = []) && decide (DT.num (MG.d m) = (0 : Int))))))) (R (.int .i64 114) []) (condP (decide (MG.kind m = (2 : Int))) (List.length (DT.o (MG.d m)) < 4294967281 ∧ condP (slotF (DT.o (MG.d m)) (DT.p (MG.d m)) (DT.per (MG.d m))) (List.length (DT.dev (MG.d m)) < 4294967281 ∧ condP (nameF (DT.dev (MG.d m))) (True ∧ condP (!numF (DT.num (MG.d m))) (R (.int .i64 114) []) (R (.int .i64 0) [])) (R (.int .i64 114) [])) (R (.int .i64 114) [])) (R (.int .i64 0) []))) (condP (decide (MG.kind m = (2 : Int))) (List.length (DT.o (MG.d m)) < 4294967281 ∧ condP (slotF (DT.o (MG.d m)) (DT.p (MG.d m)) (DT.per (MG.d m))) (List.length (DT.dev (MG.d m)) < 4294967281 ∧ condP (nameF (DT.dev (MG.d m))) (True ∧ condP (!numF (DT.num (MG.d m))) (R (.int .i64 114) []) (R (.int .i64 0) [])) (R (.int .i64 114) [])) (R (.int .i64 114) [])) (R (.int .i64 0) [])))) (condP (decide (MG.kind m = (1 : Int))) (condP (!(decide (DT.o (MG.d m) = []) && (decide (DT.p (MG.d m) = []) && (decide (DT.per (MG.d m) = (0 : Int)) && (decide (DT.dev (MG.d m) = []) && decide (DT.num (MG.d m) = (0 : Int))))))) (R (.int .i64 114) []) (condP (decide (MG.kind m = (2 : Int))) (List.length (DT.o (MG.d m)) < 4294967281 ∧ condP (slotF (DT.o (MG.d m)) (DT.p (MG.d m)) (DT.per (MG.d m))) (List.length (DT.dev (MG.d m)) < 4294967281 ∧ condP (nameF (DT.dev (MG.d m))) (True ∧ condP (!numF (DT.num (MG.d m))) (R (.int .i64 114) []) (R (.int .i64 0) [])) (R (.int .i64 114) [])) (R (.int .i64 114) [])) (R (.int .i64 0) []))) (condP (decide (MG.kind m = (2 : Int))) (List.length (DT.o (MG.d m)) < 4294967281 ∧ condP (slotF (DT.o (MG.d m)) (DT.p (MG.d m)) (DT.per (MG.d m))) (List.length (DT.dev (MG.d m)) < 4294967281 ∧ condP (nameF (DT.dev (MG.d m))) (True ∧ condP (!numF (DT.num (MG.d m))) (R (.int .i64 114) []) (R (.int .i64 0) [])) (R (.int .i64 114) [])) (R (.int .i64 114) [])) (R (.int .i64 0) [])))))) (condP (decide (MG.kind m = (1 : Int))) (List.length (VT.o (MG.v m)) < 4294967281 ∧ condP (!visF (VT.mk (VT.o (MG.v m)) (VT.p (MG.v m)) (VT.per (MG.v m)) (VT.day (MG.v m)) (VT.st (MG.v m)) (VT.pr (MG.v m)) (VT.rep (MG.v m)))) (R (.int .i64 113) []) (condP (decide (MG.kind m = (2 : Int))) (condP (!(decide (VT.o (MG.v m) = []) && (decide (VT.p (MG.v m) = []) && (decide (VT.per (MG.v m) = (0 : Int)) && (decide (VT.day (MG.v m) = (0 : Int)) && (decide (VT.st (MG.v m) = (0 : Int)) && (decide (VT.pr (MG.v m) = (0 : Int)) && decide (VT.rep (MG.v m) = [])))))))) (R (.int .i64 113) []) (condP (decide (MG.kind m = (1 : Int))) (condP (!(decide (DT.o (MG.d m) = []) && (decide (DT.p (MG.d m) = []) && (decide (DT.per (MG.d m) = (0 : Int)) && (decide (DT.dev (MG.d m) = []) && decide (DT.num (MG.d m) = (0 : Int))))))) (R (.int .i64 114) []) (condP (decide (MG.kind m = (2 : Int))) (List.length (DT.o (MG.d m)) < 4294967281 ∧ condP (slotF (DT.o (MG.d m)) (DT.p (MG.d m)) (DT.per (MG.d m))) (List.length (DT.dev (MG.d m)) < 4294967281 ∧ condP (nameF (DT.dev (MG.d m))) (True ∧ condP (!numF (DT.num (MG.d m))) (R (.int .i64 114) []) (R (.int .i64 0) [])) (R (.int .i64 114) [])) (R (.int .i64 114) [])) (R (.int .i64 0) []))) (condP (decide (MG.kind m = (2 : Int))) (List.length (DT.o (MG.d m)) < 4294967281 ∧ condP (slotF (DT.o (MG.d m)) (DT.p (MG.d m)) (DT.per (MG.d m))) (List.length (DT.dev (MG.d m)) < 4294967281 ∧ condP (nameF (DT.dev (MG.d m))) (True ∧ condP (!numF (DT.num (MG.d m))) (R (.int .i64 114) []) (R (.int .i64 0) [])) (R (.int .i64 114) [])) (R (.int .i64 114) [])) (R (.int .i64 0) [])))) (condP (decide (MG.kind m = (1 : Int))) (condP (!(decide (DT.o (MG.d m) = []) && (decide (DT.p (MG.d m) = []) && (decide (DT.per (MG.d m) = (0 : Int)) && (decide (DT.dev (MG.d m) = []) && decide (DT.num (MG.d m) = (0 : Int))))))) (R (.int .i64 114) []) (condP (decide (MG.kind m = (2 : Int))) (List.length (DT.o (MG.d m)) < 4294967281 ∧ condP (slotF (DT.o (MG.d m)) (DT.p (MG.d m)) (DT.per (MG.d m))) (List.length (DT.dev (MG.d m)) < 4294967281 ∧ condP (nameF (DT.dev (MG.d m))) (True ∧ condP (!numF (DT.num (MG.d m))) (R (.int .i64 114) []) (R (.int .i64 0) [])) (R (.int .i64 114) [])) (R (.int .i64 114) [])) (R (.int .i64 0) []))) (condP (decide (MG.kind m = (2 : Int))) (List.length (DT.o (MG.d m)) < 4294967281 ∧ condP (slotF (DT.o (MG.d m)) (DT.p (MG.d m)) (DT.per (MG.d m))) (List.length (DT.dev (MG.d m)) < 4294967281 ∧ condP (nameF (DT.dev (MG.d m))) (True ∧ condP (!numF (DT.num (MG.d m))) (R (.int .i64 114) []) (R (.int .i64 0) [])) (R (.int .i64 114) [])) (R (.int .i64 114) [])) (R (.int .i64 0) []))))) (condP (decide (MG.kind m = (2 : Int))) (condP (!(decide (VT.o (MG.v m) = []) && (decide (VT.p (MG.v m) = []) && (decide (VT.per (MG.v m) = (0 : Int)) && (decide (VT.day (MG.v m) = (0 : Int)) && (decide (VT.st (MG.v m) = (0 : Int)) && (decide (VT.pr (MG.v m) = (0 : Int)) && decide (VT.rep (MG.v m) = [])))))))) (R (.int .i64 113) []) (condP (decide (MG.kind m = (1 : Int))) (condP (!(decide (DT.o (MG.d m) = []) && (decide (DT.p (MG.d m) = []) && (decide (DT.per (MG.d m) = (0 : Int)) && (decide (DT.dev (MG.d m) = []) && decide (DT.num (MG.d m) = (0 : Int))))))) (R (.int .i64 114) []) (condP (decide (MG.kind m = (2 : Int))) (List.length (DT.o (MG.d m)) < 4294967281 ∧ condP (slotF (DT.o (MG.d m)) (DT.p (MG.d m)) (DT.per (MG.d m))) (List.length (DT.dev (MG.d m)) < 4294967281 ∧ condP (nameF (DT.dev (MG.d m))) (True ∧ condP (!numF (DT.num (MG.d m))) (R (.int .i64 114) []) (R (.int .i64 0) [])) (R (.int .i64 114) [])) (R (.int .i64 114) [])) (R (.int .i64 0) []))) (condP (decide (MG.kind m = (2 : Int))) (List.length (DT.o (MG.d m)) < 4294967281 ∧ condP (slotF (DT.o (MG.d m)) (DT.p (MG.d m)) (DT.per (MG.d m))) (List.length (DT.dev (MG.d m)) < 4294967281 ∧ condP (nameF (DT.dev (MG.d m))) (True ∧ condP (!numF (DT.num (MG.d m))) (R (.int .i64 114) []) (R (.int .i64 0) [])) (R (.int .i64 114) [])) (R (.int .i64 114) [])) (R (.int .i64 0) [])))) (condP (decide (MG.kind m = (1 : Int))) (condP (!(decide (DT.o (MG.d m) = []) && (decide (DT.p (MG.d m) = []) && (decide (DT.per (MG.d m) = (0 : Int)) && (decide (DT.dev (MG.d m) = []) && decide (DT.num (MG.d m) = (0 : Int))))))) (R (.int .i64 114) []) (condP (decide (MG.kind m = (2 : Int))) (List.length (DT.o (MG.d m)) < 4294967281 ∧ condP (slotF (DT.o (MG.d m)) (DT.p (MG.d m)) (DT.per (MG.d m))) (List.length (DT.dev (MG.d m)) < 4294967281 ∧ condP (nameF (DT.dev (MG.d m))) (True ∧ condP (!numF (DT.num (MG.d m))) (R (.int .i64 114) []) (R (.int .i64 0) [])) (R (.int .i64 114) [])) (R (.int .i64 114) [])) (R (.int .i64 0) []))) (condP (decide (MG.kind m = (2 : Int))) (List.length (DT.o (MG.d m)) < 4294967281 ∧ condP (slotF (DT.o (MG.d m)) (DT.p (MG.d m)) (DT.per (MG.d m))) (List.length (DT.dev (MG.d m)) < 4294967281 ∧ condP (nameF (DT.dev (MG.d m))) (True ∧ condP (!numF (DT.num (MG.d m))) (R (.int .i64 114) []) (R (.int .i64 0) [])) (R (.int .i64 114) [])) (R (.int .i64 114) [])) (R (.int .i64 0) [])))))))) := by kernel_rfl

theorem val0_ok (hP : C.P = Tryz.prog) (hL : ∀ w, C.laid w → LaidW w) : SpecOK C 97 S_val0 := by
  rintro args objs U Os vc h hvc
  unfold S_val0 at h
  split at h <;> simp only [Option.some.injEq, Prod.mk.injEq, reduceCtorEq] at h
  rename_i id code brand d c a
  obtain ⟨rfl, rfl, rfl⟩ := h
  exact ACalls.nilArg 2 (atRow (fun _ => []) (fun _ => [])) (valV_ok hP hL _ _ _ _ _ rfl ⟨Nat.zero_le _, hvc.1, hvc.2, fun i hi => absurd hi (Nat.not_lt_zero i), rfl⟩)
theorem cname_val (s : List UInt8) : decide (valF [48, 48, 48, 48, 48, 48, 48, 48] [48, 49] s 4 1 1 0 (fun _ => []) (fun _ => []) = 0) = nameF s := by
  unfold valF
  rw [show validIDF [48, 48, 48, 48, 48, 48, 48, 48] = true by decide +kernel, show parseOK [48, 49] = true by decide +kernel, show qtyF 4 1 1 = 0 by rfl]
  cases nameF s <;> rfl

theorem cname_ok (hP : C.P = Tryz.prog) (hL : ∀ w, C.laid w → LaidW w) : SpecOK C 64 S_cname := by
  rintro args objs U Os vc h hvc
  unfold S_cname at h
  split at h <;> simp only [Option.some.injEq, Prod.mk.injEq, reduceCtorEq] at h
  rename_i s
  obtain ⟨rfl, rfl, rfl⟩ := h
  refine SpecOK.wp0 (prg hP) [(97, .det S_val0)] 0 (.cons (val0_ok hP hL) .nil) (hP ▸ Tryz.func64) rfl rfl rfl ?_
  rw [nf_cname, cname_val]
  exact ⟨⟨by omega, hvc⟩, rfl, rfl⟩

theorem cnum_ok (hP : C.P = Tryz.prog) : SpecOK C 65 S_num := by
  have _ : C.Loose := inferInstance
  rintro args objs U Os vc h hvc
  unfold S_num at h
  split at h <;> simp only [Option.some.injEq, Prod.mk.injEq, reduceCtorEq] at h
  rename_i n
  obtain ⟨rfl, rfl, rfl⟩ := h
  refine SpecOK.wp0 (prg hP) [] 0 .nil (hP ▸ Tryz.func65) rfl rfl rfl ?_
  rw [nf_cnum]
  unfold numF
  exact condP_intro (fun h => by rw [h]; exact ⟨rfl, rfl⟩) (fun h => by rw [h]; exact ⟨rfl, rfl⟩)

theorem calv_ok (hP : C.P = Tryz.prog) : SpecOK C 127 S_calv := by
  have _ : C.Loose := inferInstance
  rintro args objs U Os vc h hvc
  unfold S_calv at h
  split at h <;> simp only [Option.some.injEq, Prod.mk.injEq, reduceCtorEq] at h
  rename_i n
  obtain ⟨rfl, rfl, rfl⟩ := h
  refine SpecOK.wp0 (prg hP) [] 0 .nil (hP ▸ Tryz.func127) rfl rfl rfl ?_
  rw [nf_calv]
  exact condP_intro (fun h => by rw [h]; exact ⟨rfl, rfl⟩) (fun h => by rw [h]; exact ⟨rfl, rfl⟩)

theorem weekday_ok (hP : C.P = Tryz.prog) : SpecOK C 98 S_weekday := by
  rintro args objs U Os vc h hvc
  unfold S_weekday at h
  split at h <;> simp only [Option.some.injEq, Prod.mk.injEq, reduceCtorEq] at h
  rename_i n
  obtain ⟨rfl, rfl, rfl⟩ := h
  refine SpecOK.wp0 (prg hP) [(127, .det S_calv)] 0 (.cons (calv_ok hP) .nil) (hP ▸ Tryz.func98) rfl rfl rfl ?_
  rw [nf_weekday]
  refine ⟨trivial, condP_not (fun h => by rw [h]; exact ⟨rfl, rfl⟩) (fun h => ⟨by decide, ?_⟩)⟩
  rw [h]
  have h0 : 0 ≤ n := of_decide_eq_true (Bool.and_eq_true_iff.1 h).1
  exact ⟨by rw [Int.tmod_eq_emod_of_nonneg h0]; rfl, rfl⟩

theorem slot_ok (hP : C.P = Tryz.prog) (hL : ∀ w, C.laid w → LaidW w) : SpecOK C 67 S_slot := by
  rintro args objs U Os vc h hvc
  unfold S_slot at h
  split at h <;> simp only [Option.some.injEq, Prod.mk.injEq, reduceCtorEq] at h
  rename_i o p per
  obtain ⟨rfl, rfl, rfl⟩ := h
  refine SpecOK.wp0 (prg hP) [(64, .det S_cname), (92, .det S_validID)] 0 (.cons (cname_ok hP hL) (.cons (validID_ok hP (trim_ok hP)) .nil)) (hP ▸ Tryz.func67) rfl rfl rfl ?_
  rw [nf_slot]
  unfold slotF
  exact ⟨hvc, condP_intro (fun h1 => ⟨trivial, condP_intro (fun h2 => condP_intro (fun h3 => by rw [h1, h2, h3]; exact ⟨rfl, rfl⟩) (fun h3 => by rw [h1, h2, h3]; exact ⟨rfl, rfl⟩)) (fun h2 => by rw [h1, h2]; exact ⟨rfl, rfl⟩)⟩) (fun h1 => by rw [h1]; exact ⟨rfl, rfl⟩)⟩

theorem wk_neg (day : Int) : decide ((bif decide (0 ≤ day) && decide (day ≤ 182620) then day % 7 else -1) < 0) = !(decide (0 ≤ day) && decide (day ≤ 182620)) := by
  cases h : decide (0 ≤ day) && decide (day ≤ 182620) with
  | true =>
    show decide (day % 7 < 0) = false
    rw [decide_eq_false]
    have := Int.emod_nonneg day (show (7 : Int) ≠ 0 by decide)
    omega
  | false => rfl

theorem visit_ok (hP : C.P = Tryz.prog) (hL : ∀ w, C.laid w → LaidW w) : SpecOK C 66 S_visit := by
  rintro args objs U Os vc h hvc
  unfold S_visit at h
  split at h <;> simp only [Option.some.injEq, Prod.mk.injEq, reduceCtorEq] at h
  rename_i o p per day st pr rep
  obtain ⟨rfl, rfl, rfl⟩ := h
  refine SpecOK.wp0 (prg hP) [(67, .det S_slot), (92, .det S_validID), (98, .det S_weekday)] 0 (.cons (slot_ok hP hL) (.cons (validID_ok hP (trim_ok hP)) (.cons (weekday_ok hP) .nil))) (hP ▸ Tryz.func66) rfl rfl rfl ?_
  rw [nf_visit, wk_neg]
  refine ⟨hvc, condP_not (fun h1 => ?_) (fun h1 => ⟨trivial, condP_not (fun h2 => ?_) (fun h2 => ?_)⟩)⟩
  · unfold visF; simp [h1]
  · unfold visF; simp [h1, h2]
  have hv : visF ⟨o, p, per, day, st, pr, rep⟩ = (bif decide (st = 1) || decide (st = 2) then decide (1 ≤ pr) && decide (pr ≤ 1099511627776) && decide (rep = [])
    else bif decide (st = 3) || decide (st = 4) then decide (pr = 0) && decide (rep = [])
    else bif decide (st = 5) then decide (1 ≤ pr) && decide (pr ≤ 1099511627776) && validIDF rep && !decide (rep = p) else false) := by
    unfold visF; simp only [h1, Bool.true_and, h2]
  rw [hv]
  have e1 : decide (1 ≤ pr) = !decide (pr < 1) := by by_cases h : pr < 1 <;> simp [h] <;> omega
  have e2 : decide (pr ≤ 1099511627776) = !decide (1099511627776 < pr) := by by_cases h : 1099511627776 < pr <;> simp [h] <;> omega
  rw [e1, e2]
  clear hv h1 h2 e1 e2
  by_cases s1 : st = 1
  · subst s1
    generalize decide (pr < 1) = b1, decide (1099511627776 < pr) = b2, decide (pr = 0) = b3, decide (rep = p) = b4, decide (rep = []) = b5, validIDF rep = b6
    cases b1 <;> cases b2 <;> exact ⟨rfl, rfl⟩
  by_cases s2 : st = 2
  · subst s2
    generalize decide (pr < 1) = b1, decide (1099511627776 < pr) = b2, decide (pr = 0) = b3, decide (rep = p) = b4, decide (rep = []) = b5, validIDF rep = b6
    cases b1 <;> cases b2 <;> exact ⟨rfl, rfl⟩
  by_cases s3 : st = 3
  · subst s3
    generalize decide (pr < 1) = b1, decide (1099511627776 < pr) = b2, decide (pr = 0) = b3, decide (rep = p) = b4, decide (rep = []) = b5, validIDF rep = b6
    cases b3 <;> exact ⟨rfl, rfl⟩
  by_cases s4 : st = 4
  · subst s4
    generalize decide (pr < 1) = b1, decide (1099511627776 < pr) = b2, decide (pr = 0) = b3, decide (rep = p) = b4, decide (rep = []) = b5, validIDF rep = b6
    cases b3 <;> exact ⟨rfl, rfl⟩
  by_cases s5 : st = 5
  · subst s5
    generalize decide (pr < 1) = b1, decide (1099511627776 < pr) = b2, decide (pr = 0) = b3, decide (rep = p) = b4, decide (rep = []) = b5, validIDF rep = b6
    cases b1 <;> cases b2 <;> cases b6 <;> first | exact ⟨rfl, rfl⟩ | exact ⟨trivial, rfl, rfl⟩
  rw [decide_eq_false s1, decide_eq_false s2, decide_eq_false s3, decide_eq_false s4, decide_eq_false s5]
  exact ⟨rfl, rfl⟩

theorem msg_ok (hP : C.P = Tryz.prog) (hL : ∀ w, C.laid w → LaidW w) : SpecOK C 33 S_msg := by
  rintro args objs U Os vc h hvc
  unfold S_msg at h
  split at h <;> simp only [Option.some.injEq, Prod.mk.injEq, reduceCtorEq] at h
  rename_i dev seq kind o p per day st pr rep o2 p2 per2 dev2 num
  obtain ⟨rfl, rfl, rfl⟩ := h
  refine SpecOK.wp0 (prg hP) [(64, .det S_cname), (67, .det S_slot), (66, .det S_visit), (65, .det S_num)] 0 (.cons (cname_ok hP hL) (.cons (slot_ok hP hL) (.cons (visit_ok hP hL) (.cons (cnum_ok hP) .nil)))) (hP ▸ Tryz.func33) rfl rfl rfl ?_
  have nf := fun R => nf_msg ⟨dev, seq, kind, ⟨o, p, per, day, st, pr, rep⟩, ⟨o2, p2, per2, dev2, num⟩⟩ R
  refine (nf _).mpr ?_
  clear nf
  obtain ⟨l1, l2, l3, l4⟩ := hvc
  unfold msgF VT.nil DT.nil
  dsimp only
  generalize (decide (o = []) && (decide (p = []) && (decide (per = 0) && (decide (day = 0) && (decide (st = 0) && (decide (pr = 0) && decide (rep = []))))))) = vn
  generalize (decide (o2 = []) && (decide (p2 = []) && (decide (per2 = 0) && (decide (dev2 = []) && decide (num = 0))))) = dn
  generalize nameF dev = b1, numF seq = b2, visF ⟨o, p, per, day, st, pr, rep⟩ = b3, slotF o2 p2 per2 = b4, nameF dev2 = b5, numF num = b6
  refine ⟨l1, ?_⟩
  cases b1
  · exact ⟨rfl, rfl⟩
  refine ⟨trivial, ?_⟩
  cases b2
  · exact ⟨rfl, rfl⟩
  by_cases k1 : kind = 1
  · subst k1
    refine ⟨l2, ?_⟩
    cases b3 <;> cases dn <;> exact ⟨rfl, rfl⟩
  by_cases k2 : kind = 2
  · subst k2
    cases vn
    · exact ⟨rfl, rfl⟩
    refine ⟨l3, ?_⟩
    cases b4
    · exact ⟨rfl, rfl⟩
    refine ⟨l4, ?_⟩
    cases b5
    · exact ⟨rfl, rfl⟩
    refine ⟨trivial, ?_⟩
    cases b6 <;> exact ⟨rfl, rfl⟩
  rw [decide_eq_false k1, decide_eq_false k2]
  exact ⟨rfl, rfl⟩
end Go.Eng
/- The reference of the products. -/
namespace Go.Eng
open Go.Proofs Go.RowKit
set_option maxRecDepth 20000
theorem nf_nameR (s : List UInt8) (R : AV → List (Nat × AObj) → Prop) : wpFn te [] [(2, L_nameR s)] 0 Tryz.f68 [.str s] [] R = (some (St.mk [(0, .str s), (6, .int .i64 (↑(List.length s) : Int)), (7, .int .i64 0)] [] 0 []) = some (St.mk [(0, .str s), (6, .int .i64 (↑(List.length s) : Int)), (7, .int .i64 (↑0 : Int))] [] 0 []) ∧ ((∀ (k : Nat), k < List.length s → OKat s k) → condP (decide ((1 : Int) ≤ (↑(List.length s) : Int))) (R (.bool (decide ((↑(List.length s) : Int) ≤ (24 : Int)))) []) (R (.bool false) [])) ∧ ∀ (k : Nat), k < List.length s → ¬OKat s k → R (.bool false) []) := by kernel_rfl
theorem nf_nameR_round (s : List UInt8) (k : Nat) (P : Nat → Prop) (R : Exit → St → Prop) : roundP ⟨te, [], [], 0, 59, 0⟩ (loopB Tryz.f68 2) [0, 6, 7] [0] [2] (S_nrState s) P R (S_nrState s k) = (condP (decide ((↑k : Int) < (↑(List.length s) : Int))) (((0 : Int) ≤ (↑k : Int) ∧ (↑k : Int) < (↑(List.length s) : Int)) ∧ condP (decide ((97 : Int) ≤ (↑(UInt8.toNat (List.getD s (Int.toNat (↑k : Int)) (0 : UInt8))) : Int))) (((0 : Int) ≤ (↑k : Int) ∧ (↑k : Int) < (↑(List.length s) : Int)) ∧ condP (decide ((↑(UInt8.toNat (List.getD s (Int.toNat (↑k : Int)) (0 : UInt8))) : Int) ≤ (122 : Int))) (inR .i64 ((↑k : Int) + (1 : Int)) ∧ ∃ (i' : Nat), some (St.mk [(0, .str s), (6, .int .i64 (↑(List.length s) : Int)), (7, .int .i64 ((↑k : Int) + (1 : Int)))] [] 0 []) = some (St.mk [(0, .str s), (6, .int .i64 (↑(List.length s) : Int)), (7, .int .i64 (↑i' : Int))] [] 0 []) ∧ P i') (((0 : Int) ≤ (↑k : Int) ∧ (↑k : Int) < (↑(List.length s) : Int)) ∧ condP (decide ((48 : Int) ≤ (↑(UInt8.toNat (List.getD s (Int.toNat (↑k : Int)) (0 : UInt8))) : Int))) (((0 : Int) ≤ (↑k : Int) ∧ (↑k : Int) < (↑(List.length s) : Int)) ∧ condP (!decide ((↑(UInt8.toNat (List.getD s (Int.toNat (↑k : Int)) (0 : UInt8))) : Int) ≤ (57 : Int))) (condP (decide ((↑k : Int) = (0 : Int))) (R .ret (St.mk [(2, .bool false)] [] 0 [])) (((0 : Int) ≤ (↑k : Int) ∧ (↑k : Int) < (↑(List.length s) : Int)) ∧ condP (!decide ((↑(UInt8.toNat (List.getD s (Int.toNat (↑k : Int)) (0 : UInt8))) : Int) = (45 : Int))) (((0 : Int) ≤ (↑k : Int) ∧ (↑k : Int) < (↑(List.length s) : Int)) ∧ condP (!decide ((↑(UInt8.toNat (List.getD s (Int.toNat (↑k : Int)) (0 : UInt8))) : Int) = (46 : Int))) (R .ret (St.mk [(2, .bool false)] [] 0 [])) (inR .i64 ((↑k : Int) + (1 : Int)) ∧ ∃ (i' : Nat), some (St.mk [(0, .str s), (6, .int .i64 (↑(List.length s) : Int)), (7, .int .i64 ((↑k : Int) + (1 : Int)))] [] 0 []) = some (St.mk [(0, .str s), (6, .int .i64 (↑(List.length s) : Int)), (7, .int .i64 (↑i' : Int))] [] 0 []) ∧ P i')) (inR .i64 ((↑k : Int) + (1 : Int)) ∧ ∃ (i' : Nat), some (St.mk [(0, .str s), (6, .int .i64 (↑(List.length s) : Int)), (7, .int .i64 ((↑k : Int) + (1 : Int)))] [] 0 []) = some (St.mk [(0, .str s), (6, .int .i64 (↑(List.length s) : Int)), (7, .int .i64 (↑i' : Int))] [] 0 []) ∧ P i'))) (inR .i64 ((↑k : Int) + (1 : Int)) ∧ ∃ (i' : Nat), some (St.mk [(0, .str s), (6, .int .i64 (↑(List.length s) : Int)), (7, .int .i64 ((↑k : Int) + (1 : Int)))] [] 0 []) = some (St.mk [(0, .str s), (6, .int .i64 (↑(List.length s) : Int)), (7, .int .i64 (↑i' : Int))] [] 0 []) ∧ P i')) (condP (decide ((↑k : Int) = (0 : Int))) (R .ret (St.mk [(2, .bool false)] [] 0 [])) (((0 : Int) ≤ (↑k : Int) ∧ (↑k : Int) < (↑(List.length s) : Int)) ∧ condP (!decide ((↑(UInt8.toNat (List.getD s (Int.toNat (↑k : Int)) (0 : UInt8))) : Int) = (45 : Int))) (((0 : Int) ≤ (↑k : Int) ∧ (↑k : Int) < (↑(List.length s) : Int)) ∧ condP (!decide ((↑(UInt8.toNat (List.getD s (Int.toNat (↑k : Int)) (0 : UInt8))) : Int) = (46 : Int))) (R .ret (St.mk [(2, .bool false)] [] 0 [])) (inR .i64 ((↑k : Int) + (1 : Int)) ∧ ∃ (i' : Nat), some (St.mk [(0, .str s), (6, .int .i64 (↑(List.length s) : Int)), (7, .int .i64 ((↑k : Int) + (1 : Int)))] [] 0 []) = some (St.mk [(0, .str s), (6, .int .i64 (↑(List.length s) : Int)), (7, .int .i64 (↑i' : Int))] [] 0 []) ∧ P i')) (inR .i64 ((↑k : Int) + (1 : Int)) ∧ ∃ (i' : Nat), some (St.mk [(0, .str s), (6, .int .i64 (↑(List.length s) : Int)), (7, .int .i64 ((↑k : Int) + (1 : Int)))] [] 0 []) = some (St.mk [(0, .str s), (6, .int .i64 (↑(List.length s) : Int)), (7, .int .i64 (↑i' : Int))] [] 0 []) ∧ P i'))))) (((0 : Int) ≤ (↑k : Int) ∧ (↑k : Int) < (↑(List.length s) : Int)) ∧ condP (decide ((48 : Int) ≤ (↑(UInt8.toNat (List.getD s (Int.toNat (↑k : Int)) (0 : UInt8))) : Int))) (((0 : Int) ≤ (↑k : Int) ∧ (↑k : Int) < (↑(List.length s) : Int)) ∧ condP (!decide ((↑(UInt8.toNat (List.getD s (Int.toNat (↑k : Int)) (0 : UInt8))) : Int) ≤ (57 : Int))) (condP (decide ((↑k : Int) = (0 : Int))) (R .ret (St.mk [(2, .bool false)] [] 0 [])) (((0 : Int) ≤ (↑k : Int) ∧ (↑k : Int) < (↑(List.length s) : Int)) ∧ condP (!decide ((↑(UInt8.toNat (List.getD s (Int.toNat (↑k : Int)) (0 : UInt8))) : Int) = (45 : Int))) (((0 : Int) ≤ (↑k : Int) ∧ (↑k : Int) < (↑(List.length s) : Int)) ∧ condP (!decide ((↑(UInt8.toNat (List.getD s (Int.toNat (↑k : Int)) (0 : UInt8))) : Int) = (46 : Int))) (R .ret (St.mk [(2, .bool false)] [] 0 [])) (inR .i64 ((↑k : Int) + (1 : Int)) ∧ ∃ (i' : Nat), some (St.mk [(0, .str s), (6, .int .i64 (↑(List.length s) : Int)), (7, .int .i64 ((↑k : Int) + (1 : Int)))] [] 0 []) = some (St.mk [(0, .str s), (6, .int .i64 (↑(List.length s) : Int)), (7, .int .i64 (↑i' : Int))] [] 0 []) ∧ P i')) (inR .i64 ((↑k : Int) + (1 : Int)) ∧ ∃ (i' : Nat), some (St.mk [(0, .str s), (6, .int .i64 (↑(List.length s) : Int)), (7, .int .i64 ((↑k : Int) + (1 : Int)))] [] 0 []) = some (St.mk [(0, .str s), (6, .int .i64 (↑(List.length s) : Int)), (7, .int .i64 (↑i' : Int))] [] 0 []) ∧ P i'))) (inR .i64 ((↑k : Int) + (1 : Int)) ∧ ∃ (i' : Nat), some (St.mk [(0, .str s), (6, .int .i64 (↑(List.length s) : Int)), (7, .int .i64 ((↑k : Int) + (1 : Int)))] [] 0 []) = some (St.mk [(0, .str s), (6, .int .i64 (↑(List.length s) : Int)), (7, .int .i64 (↑i' : Int))] [] 0 []) ∧ P i')) (condP (decide ((↑k : Int) = (0 : Int))) (R .ret (St.mk [(2, .bool false)] [] 0 [])) (((0 : Int) ≤ (↑k : Int) ∧ (↑k : Int) < (↑(List.length s) : Int)) ∧ condP (!decide ((↑(UInt8.toNat (List.getD s (Int.toNat (↑k : Int)) (0 : UInt8))) : Int) = (45 : Int))) (((0 : Int) ≤ (↑k : Int) ∧ (↑k : Int) < (↑(List.length s) : Int)) ∧ condP (!decide ((↑(UInt8.toNat (List.getD s (Int.toNat (↑k : Int)) (0 : UInt8))) : Int) = (46 : Int))) (R .ret (St.mk [(2, .bool false)] [] 0 [])) (inR .i64 ((↑k : Int) + (1 : Int)) ∧ ∃ (i' : Nat), some (St.mk [(0, .str s), (6, .int .i64 (↑(List.length s) : Int)), (7, .int .i64 ((↑k : Int) + (1 : Int)))] [] 0 []) = some (St.mk [(0, .str s), (6, .int .i64 (↑(List.length s) : Int)), (7, .int .i64 (↑i' : Int))] [] 0 []) ∧ P i')) (inR .i64 ((↑k : Int) + (1 : Int)) ∧ ∃ (i' : Nat), some (St.mk [(0, .str s), (6, .int .i64 (↑(List.length s) : Int)), (7, .int .i64 ((↑k : Int) + (1 : Int)))] [] 0 []) = some (St.mk [(0, .str s), (6, .int .i64 (↑(List.length s) : Int)), (7, .int .i64 (↑i' : Int))] [] 0 []) ∧ P i'))))) (R (.exit 0) (St.mk [(0, .str s)] [] 0 []))) := by kernel_rfl
theorem nf_cdR (s : List UInt8) (R : AV → List (Nat × AObj) → Prop) : wpFn te [] [(5, L_checkDigitR s)] 0 Tryz.f85 [.str s] [] R = (condP (!decide ((↑(List.length s) : Int) = (7 : Int))) (condP (!decide ((↑(List.length s) : Int) = (12 : Int))) (R (.tuple [.int .i64 0, .bool false]) []) (some (St.mk [(0, .str s), (4, .int .i64 0), (16, .int .i64 (↑(List.length s) : Int)), (17, .int .i64 0)] [] 0 []) = some (St.mk [(0, .str s), (4, .int .i64 (cdSum s 0)), (16, .int .i64 (↑(List.length s) : Int)), (17, .int .i64 (↑0 : Int))] [] 0 []) ∧ List.length s ≤ 12 ∧ condP (List.all s isDig) ((10 : Int) ≠ (0 : Int) ∧ inR .i64 ((10 : Int) - Int.tmod (cdSum s (List.length s)) (10 : Int)) ∧ (10 : Int) ≠ (0 : Int) ∧ R (.tuple [.int .i64 (Int.tmod ((10 : Int) - Int.tmod (cdSum s (List.length s)) (10 : Int)) (10 : Int)), .bool true]) []) (R (.tuple [.int .i64 0, .bool false]) []))) (some (St.mk [(0, .str s), (4, .int .i64 0), (16, .int .i64 (↑(List.length s) : Int)), (17, .int .i64 0)] [] 0 []) = some (St.mk [(0, .str s), (4, .int .i64 (cdSum s 0)), (16, .int .i64 (↑(List.length s) : Int)), (17, .int .i64 (↑0 : Int))] [] 0 []) ∧ List.length s ≤ 12 ∧ condP (List.all s isDig) ((10 : Int) ≠ (0 : Int) ∧ inR .i64 ((10 : Int) - Int.tmod (cdSum s (List.length s)) (10 : Int)) ∧ (10 : Int) ≠ (0 : Int) ∧ R (.tuple [.int .i64 (Int.tmod ((10 : Int) - Int.tmod (cdSum s (List.length s)) (10 : Int)) (10 : Int)), .bool true]) []) (R (.tuple [.int .i64 0, .bool false]) []))) := by kernel_rfl
theorem nf_cdR_round (s : List UInt8) (k : Nat) (P : Nat → Prop) (R : Exit → St → Prop) : roundP ⟨te, [], [], 0, 50, 0⟩ (loopB Tryz.f85 5) [0, 4, 16, 17] [4] [2, 3] (S_cdrState s) P R (S_cdrState s k) = (condP (decide ((↑k : Int) < (↑(List.length s) : Int))) (((0 : Int) ≤ (↑k : Int) ∧ (↑k : Int) < (↑(List.length s) : Int)) ∧ condP (decide ((↑(UInt8.toNat (List.getD s (Int.toNat (↑k : Int)) (0 : UInt8))) : Int) < (48 : Int))) (R .ret (St.mk [(2, .int .i64 0), (3, .bool false)] [] 0 [])) (((0 : Int) ≤ (↑k : Int) ∧ (↑k : Int) < (↑(List.length s) : Int)) ∧ condP (decide ((57 : Int) < (↑(UInt8.toNat (List.getD s (Int.toNat (↑k : Int)) (0 : UInt8))) : Int))) (R .ret (St.mk [(2, .int .i64 0), (3, .bool false)] [] 0 [])) (inR .i64 ((↑(List.length s) : Int) - (↑k : Int)) ∧ (2 : Int) ≠ (0 : Int) ∧ condP (decide (Int.tmod ((↑(List.length s) : Int) - (↑k : Int)) (2 : Int) = (1 : Int))) (((0 : Int) ≤ (↑k : Int) ∧ (↑k : Int) < (↑(List.length s) : Int)) ∧ inR .i64 (((↑(UInt8.toNat (List.getD s (Int.toNat (↑k : Int)) (0 : UInt8))) : Int) - (48 : Int)) % (256 : Int)) ∧ inR .i64 ((3 : Int) * (((↑(UInt8.toNat (List.getD s (Int.toNat (↑k : Int)) (0 : UInt8))) : Int) - (48 : Int)) % (256 : Int))) ∧ inR .i64 (cdSum s k + (3 : Int) * (((↑(UInt8.toNat (List.getD s (Int.toNat (↑k : Int)) (0 : UInt8))) : Int) - (48 : Int)) % (256 : Int))) ∧ inR .i64 ((↑k : Int) + (1 : Int)) ∧ ∃ (i' : Nat), some (St.mk [(0, .str s), (4, .int .i64 (cdSum s k + (3 : Int) * (((↑(UInt8.toNat (List.getD s (Int.toNat (↑k : Int)) (0 : UInt8))) : Int) - (48 : Int)) % (256 : Int)))), (16, .int .i64 (↑(List.length s) : Int)), (17, .int .i64 ((↑k : Int) + (1 : Int)))] [] 0 []) = some (St.mk [(0, .str s), (4, .int .i64 (cdSum s i')), (16, .int .i64 (↑(List.length s) : Int)), (17, .int .i64 (↑i' : Int))] [] 0 []) ∧ P i') (((0 : Int) ≤ (↑k : Int) ∧ (↑k : Int) < (↑(List.length s) : Int)) ∧ inR .i64 (((↑(UInt8.toNat (List.getD s (Int.toNat (↑k : Int)) (0 : UInt8))) : Int) - (48 : Int)) % (256 : Int)) ∧ inR .i64 ((1 : Int) * (((↑(UInt8.toNat (List.getD s (Int.toNat (↑k : Int)) (0 : UInt8))) : Int) - (48 : Int)) % (256 : Int))) ∧ inR .i64 (cdSum s k + (1 : Int) * (((↑(UInt8.toNat (List.getD s (Int.toNat (↑k : Int)) (0 : UInt8))) : Int) - (48 : Int)) % (256 : Int))) ∧ inR .i64 ((↑k : Int) + (1 : Int)) ∧ ∃ (i' : Nat), some (St.mk [(0, .str s), (4, .int .i64 (cdSum s k + (1 : Int) * (((↑(UInt8.toNat (List.getD s (Int.toNat (↑k : Int)) (0 : UInt8))) : Int) - (48 : Int)) % (256 : Int)))), (16, .int .i64 (↑(List.length s) : Int)), (17, .int .i64 ((↑k : Int) + (1 : Int)))] [] 0 []) = some (St.mk [(0, .str s), (4, .int .i64 (cdSum s i')), (16, .int .i64 (↑(List.length s) : Int)), (17, .int .i64 (↑i' : Int))] [] 0 []) ∧ P i')))) (R (.exit 0) (St.mk [(4, .int .i64 (cdSum s k))] [] 0 []))) := by kernel_rfl
theorem nf_validIDR (s : List UInt8) (R : AV → List (Nat × AObj) → Prop) : wpFn te [(85, .det S_checkDigit)] [] 0 Tryz.f99 [.str s] [] R = (condP (!decide ((↑(List.length s) : Int) = (8 : Int))) (condP (!decide ((↑(List.length s) : Int) = (13 : Int))) (R (.bool false) []) (inR .i64 ((↑(List.length s) : Int) - (1 : Int)) ∧ ((0 : Int) ≤ (↑(List.length s) : Int) - (1 : Int) ∧ (↑(List.length s) : Int) - (1 : Int) ≤ (↑(List.length s) : Int)) ∧ True ∧ condP (Prod.snd (cdF (List.take (Int.toNat ((↑(List.length s) : Int) - (1 : Int))) s))) (inR .i64 ((↑(List.length s) : Int) - (1 : Int)) ∧ ((0 : Int) ≤ (↑(List.length s) : Int) - (1 : Int) ∧ (↑(List.length s) : Int) - (1 : Int) < (↑(List.length s) : Int)) ∧ inR .i64 ((48 : Int) + Prod.fst (cdF (List.take (Int.toNat ((↑(List.length s) : Int) - (1 : Int))) s))) ∧ inR .u8 ((48 : Int) + Prod.fst (cdF (List.take (Int.toNat ((↑(List.length s) : Int) - (1 : Int))) s))) ∧ R (.bool (decide ((↑(UInt8.toNat (List.getD s (Int.toNat ((↑(List.length s) : Int) - (1 : Int))) (0 : UInt8))) : Int) = (48 : Int) + Prod.fst (cdF (List.take (Int.toNat ((↑(List.length s) : Int) - (1 : Int))) s))))) []) (R (.bool false) []))) (inR .i64 ((↑(List.length s) : Int) - (1 : Int)) ∧ ((0 : Int) ≤ (↑(List.length s) : Int) - (1 : Int) ∧ (↑(List.length s) : Int) - (1 : Int) ≤ (↑(List.length s) : Int)) ∧ True ∧ condP (Prod.snd (cdF (List.take (Int.toNat ((↑(List.length s) : Int) - (1 : Int))) s))) (inR .i64 ((↑(List.length s) : Int) - (1 : Int)) ∧ ((0 : Int) ≤ (↑(List.length s) : Int) - (1 : Int) ∧ (↑(List.length s) : Int) - (1 : Int) < (↑(List.length s) : Int)) ∧ inR .i64 ((48 : Int) + Prod.fst (cdF (List.take (Int.toNat ((↑(List.length s) : Int) - (1 : Int))) s))) ∧ inR .u8 ((48 : Int) + Prod.fst (cdF (List.take (Int.toNat ((↑(List.length s) : Int) - (1 : Int))) s))) ∧ R (.bool (decide ((↑(UInt8.toNat (List.getD s (Int.toNat ((↑(List.length s) : Int) - (1 : Int))) (0 : UInt8))) : Int) = (48 : Int) + Prod.fst (cdF (List.take (Int.toNat ((↑(List.length s) : Int) - (1 : Int))) s))))) []) (R (.bool false) []))) := by kernel_rfl

variable {C : Ctx} [C.Loose]

theorem nameR_loop (hP : C.P = Tryz.prog) (s : List UInt8) (hm : s.length ≤ 9223372036854775806) : LoopOK C 0 59 (loopC Tryz.f68 2) (L_nameR s) := by
  have _ : C.Loose := inferInstance
  rintro st Q ⟨h0, hQ1, hQ2⟩
  refine LoopOK.mk (prg hP) [] 0 .nil [0, 6, 7] [0] [2] (S_nrState s) (fun k => k ≤ s.length ∧ ∀ j, j < k → OKat s j) (fun k => s.length - k) 0 ⟨Nat.zero_le _, fun j h => by omega⟩ h0 fun k ⟨hk, hall⟩ => ?_
  rw [nf_nameR_round]
  refine condP_dec (fun h => ?_) (fun h => ?_)
  · have hlt : k < s.length := by omega
    have hret : ¬ OKat s k → Q .ret ⟨[(2, .bool false)], [], 0, []⟩ := hQ2 k hlt
    have hgo : OKat s k → ∃ i' : Nat, some (St.mk [(0, .str s), (6, .int .i64 (s.length : Int)), (7, .int .i64 ((k : Int) + 1))] [] 0 []) = some (St.mk [(0, .str s), (6, .int .i64 (s.length : Int)), (7, .int .i64 (i' : Int))] [] 0 []) ∧ (i' ≤ s.length ∧ ∀ j, j < i' → OKat s j) ∧ s.length - i' < s.length - k := fun hok =>
      ⟨k + 1, rfl, ⟨by omega, fun j hj => by
        rcases Nat.lt_succ_iff_lt_or_eq.1 hj with hj | rfl
        · exact hall j hj
        · exact hok⟩, by omega⟩
    unfold OKat at hret hgo
    simp only [Int.toNat_natCast, inR]
    repeat' (first | (refine condP_dec (fun _ => ?_) (fun _ => ?_)) | (refine condP_ndec (fun _ => ?_) (fun _ => ?_)) | (refine And.intro (by omega) ?_) | fail)
    all_goals (first | exact hret (by omega) | exact hgo (by omega))
  · exact hQ1 fun j hj => hall j (by omega)

theorem nameR_ok (hP : C.P = Tryz.prog) : SpecOK C 68 S_nameR := by
  rintro args objs U Os vc h hvc
  unfold S_nameR at h
  split at h <;> simp only [Option.some.injEq, Prod.mk.injEq, reduceCtorEq] at h
  rename_i s
  obtain ⟨rfl, rfl, rfl⟩ := h
  refine SpecOK.wpL (prg hP) [] [(2, L_nameR s)] 0 .nil (hP ▸ Tryz.func68) rfl rfl rfl [(loopC Tryz.f68 2, L_nameR s)] (by kernel_rfl) ⟨nameR_loop hP s hvc, trivial⟩ ?_
  rw [nf_nameR]
  refine ⟨rfl, fun hall => condP_dec (fun h1 => ⟨congrArg AV.bool ?_, rfl⟩) (fun h1 => ⟨congrArg AV.bool ?_, rfl⟩), fun k hk hno => ⟨congrArg AV.bool ?_, rfl⟩⟩
  · by_cases h2 : s.length ≤ 24
    · rw [(nameF_iff s).2 ⟨⟨by omega, h2⟩, hall⟩]; exact decide_eq_true (by omega)
    · rw [decide_eq_false (by omega)]
      cases hn : nameF s with
      | false => rfl
      | true => exact absurd ((nameF_iff s).1 hn).1.2 h2
  · cases hn : nameF s with
    | false => rfl
    | true => exact absurd ((nameF_iff s).1 hn).1.1 (by omega)
  · cases hn : nameF s with
    | false => rfl
    | true => exact absurd (((nameF_iff s).1 hn).2 k hk) hno

theorem cdR_loop (hP : C.P = Tryz.prog) (s : List UInt8) : LoopOK C 0 50 (loopC Tryz.f85 5) (L_checkDigitR s) := by
  have _ : C.Loose := inferInstance
  rintro st Q ⟨h0, hlen, hQ⟩
  have hQ := condP_elim hQ
  refine LoopOK.mk (prg hP) [] 0 .nil [0, 4, 16, 17] [4] [2, 3] (S_cdrState s) (fun k => k ≤ s.length ∧ ∀ j, j < k → 48 ≤ (s.getD j 0).toNat ∧ (s.getD j 0).toNat ≤ 57) (fun k => s.length - k) 0 ⟨Nat.zero_le _, fun j h => by omega⟩ h0 fun k ⟨hk, hall⟩ => ?_
  rw [nf_cdR_round]
  have hb := cdSum_boundk k hk hall
  refine condP_dec (fun h => ?_) (fun h => ?_)
  · have hlt : k < s.length := by omega
    have hret : ¬ (48 ≤ (s.getD k 0).toNat ∧ (s.getD k 0).toNat ≤ 57) → Q .ret ⟨[(2, .int .i64 0), (3, .bool false)], [], 0, []⟩ := fun hno => hQ.2 (by
      cases ha : s.all isDig with
      | false => rfl
      | true => exact absurd (isDig_at ha k hlt) hno)
    have e : Int.tmod (↑s.length - ↑k) 2 = (↑s.length - ↑k) % 2 := Int.tmod_eq_emod_of_nonneg (by omega)
    have hs : cdSum s (k + 1) = cdSum s k + (1 + 2 * ((↑s.length - ↑k) % 2)) * (↑(s.getD k 0).toNat - 48) := rfl
    have hgo : (48 ≤ (s.getD k 0).toNat ∧ (s.getD k 0).toNat ≤ 57) → (k + 1 ≤ s.length ∧ ∀ j, j < k + 1 → 48 ≤ (s.getD j 0).toNat ∧ (s.getD j 0).toNat ≤ 57) ∧ s.length - (k + 1) < s.length - k := fun hok =>
      ⟨⟨by omega, fun j hj => by
        rcases Nat.lt_succ_iff_lt_or_eq.1 hj with hj | rfl
        · exact hall j hj
        · exact hok⟩, by omega⟩
    simp only [Int.toNat_natCast, inR, e]
    refine ⟨by omega, condP_dec (fun h1 => hret (by omega)) (fun h1 => ⟨by omega, condP_dec (fun h2 => hret (by omega)) (fun h2 => ⟨by omega, by omega, ?_⟩)⟩)⟩
    have hgo := hgo (by omega)
    have e3 : ((s.getD k 0).toNat - 48 : Int) % 256 = (s.getD k 0).toNat - 48 := by omega
    rw [e3]
    refine condP_dec (fun h3 => ?_) (fun h3 => ?_)
    · rw [h3] at hs
      exact ⟨by omega, by omega, by omega, by omega, by omega, k + 1, by rw [hs]; rfl, hgo⟩
    · have h3 : (↑s.length - ↑k : Int) % 2 = 0 := by omega
      rw [h3] at hs
      exact ⟨by omega, by omega, by omega, by omega, by omega, k + 1, by rw [hs]; rfl, hgo⟩
  · have hks : k = s.length := by omega
    rw [hks]
    exact hQ.1 (all_isDig fun j hj => hall j (by omega))

theorem cdR_ok (hP : C.P = Tryz.prog) : SpecOK C 85 S_checkDigit := by
  rintro args objs U Os vc h hvc
  unfold S_checkDigit at h
  split at h <;> simp only [Option.some.injEq, Prod.mk.injEq, reduceCtorEq] at h
  rename_i s
  obtain ⟨rfl, rfl, rfl⟩ := h
  refine SpecOK.wpL (prg hP) [] [(5, L_checkDigitR s)] 0 .nil (hP ▸ Tryz.func85) rfl rfl rfl [(loopC Tryz.f85 5, L_checkDigitR s)] (by kernel_rfl) ⟨cdR_loop hP s, trivial⟩ ?_
  rw [nf_cdR]
  have main : (s.length = 7 ∨ s.length = 12) → condP (s.all isDig) ((10 : Int) ≠ 0 ∧ inR .i64 (10 - Int.tmod (cdSum s s.length) 10) ∧ (10 : Int) ≠ 0 ∧ AV.tuple [.int .i64 (Int.tmod (10 - Int.tmod (cdSum s s.length) 10) 10), .bool true] = .tuple [.int .i64 (cdF s).1, .bool (cdF s).2] ∧ ([] : List (Nat × AObj)) = [])
      (AV.tuple [.int .i64 0, .bool false] = .tuple [.int .i64 (cdF s).1, .bool (cdF s).2] ∧ ([] : List (Nat × AObj)) = []) := by
    intro hl
    have hd : digitsF s 7 12 = s.all isDig := by
      unfold digitsF
      rcases hl with h | h <;> simp [h]
    refine condP_intro (fun ha => ?_) (fun ha => ?_)
    · have hb := cdSum_bound ha s.length (Nat.le_refl _)
      have e : Int.tmod (cdSum s s.length) 10 = cdSum s s.length % 10 := Int.tmod_eq_emod_of_nonneg (by omega)
      rw [e, Int.tmod_eq_emod_of_nonneg (by omega)]
      refine ⟨by omega, by simp only [inR]; omega, by omega, ?_, rfl⟩
      simp [cdF, hd, ha]
    · refine ⟨?_, rfl⟩
      simp [cdF, hd, ha]
  refine condP_ndec (fun h1 => condP_ndec (fun h2 => ⟨?_, rfl⟩) (fun h2 => ⟨rfl, by omega, main (by omega)⟩)) (fun h1 => ⟨rfl, by omega, main (by omega)⟩)
  have hd : digitsF s 7 12 = false := by unfold digitsF; rw [decide_eq_false h1, decide_eq_false h2]; rfl
  simp [cdF, hd]

theorem validIDR_ok (hP : C.P = Tryz.prog) : SpecOK C 99 S_validID := by
  rintro args objs U Os vc h hvc
  unfold S_validID at h
  split at h <;> simp only [Option.some.injEq, Prod.mk.injEq, reduceCtorEq] at h
  rename_i s
  obtain ⟨rfl, rfl, rfl⟩ := h
  refine SpecOK.wp0 (prg hP) [(85, .det S_checkDigit)] 0 (.cons (cdR_ok hP) .nil) (hP ▸ Tryz.func99) rfl rfl rfl ?_
  rw [nf_validIDR]
  have e1 : ∀ h : s.length = 8 ∨ s.length = 13, (↑s.length - 1 : Int).toNat = s.length - 1 := by intro h; omega
  have hcd := cdF_bound (s.take (s.length - 1))
  have last : (s.length = 8 ∨ s.length = 13) → (s.all isDig = ((cdF (s.take (s.length - 1))).2 && isDig (s.getD (s.length - 1) 0))) := by
    intro hl
    have h2 : (cdF (s.take (s.length - 1))).2 = (s.take (s.length - 1)).all isDig := by
      have hd : digitsF (s.take (s.length - 1)) 7 12 = (s.take (s.length - 1)).all isDig := by
        unfold digitsF
        have : (s.take (s.length - 1)).length = s.length - 1 := by simp
        rcases hl with h | h <;> simp [this, h]
      unfold cdF
      rw [hd]
      cases (s.take (s.length - 1)).all isDig <;> rfl
    have hs : s = s.take (s.length - 1) ++ [s.getD (s.length - 1) 0] := by
      have hlt : s.length - 1 < s.length := by omega
      have := (List.take_append_drop (s.length - 1) s).symm
      rw [List.drop_eq_getElem_cons hlt] at this
      have e : s.getD (s.length - 1) 0 = s[s.length - 1] := by simp [List.getD, hlt]
      rw [e]
      have hd : List.drop (s.length - 1 + 1) s = [] := List.drop_eq_nil_of_le (by omega)
      rw [hd] at this
      exact this
    rw [h2]
    conv => lhs; rw [hs]
    simp
  have hv : (s.length = 8 ∨ s.length = 13) → validIDF s = ((cdF (s.take (s.length - 1))).2 && decide ((s.getD (s.length - 1) 0).toNat = 48 + (cdF (s.take (s.length - 1))).1)) := by
    intro hl
    have hd : digitsF s 8 13 = s.all isDig := by
      unfold digitsF
      rcases hl with h | h <;> simp [h]
    unfold validIDF
    rw [hd, last hl]
    cases hc : (cdF (s.take (s.length - 1))).2 with
    | false => rfl
    | true =>
      simp only [Bool.true_and]
      cases hi : isDig (s.getD (s.length - 1) 0) with
      | true =>
        refine decide_eq_decide.2 ?_
        omega
      | false =>
        refine (decide_eq_false fun he => ?_).symm
        simp only [isDig, Bool.and_eq_false_imp, decide_eq_true_eq, decide_eq_false_iff_not] at hi
        omega
  have main : (s.length = 8 ∨ s.length = 13) → condP (cdF (s.take (s.length - 1))).2 (inR .i64 (↑s.length - 1) ∧ (0 ≤ (↑s.length - 1 : Int) ∧ (↑s.length - 1 : Int) < ↑s.length) ∧ inR .i64 (48 + (cdF (s.take (s.length - 1))).1) ∧ inR .u8 (48 + (cdF (s.take (s.length - 1))).1) ∧
      AV.bool (decide ((↑(s.getD (s.length - 1) 0).toNat : Int) = 48 + (cdF (s.take (s.length - 1))).1)) = .bool (validIDF s) ∧ ([] : List (Nat × AObj)) = []) (AV.bool false = .bool (validIDF s) ∧ ([] : List (Nat × AObj)) = []) := by
    intro hl
    rw [hv hl]
    refine condP_intro (fun hc => ?_) (fun hc => ?_)
    · simp only [inR, hc, Bool.true_and]
      exact ⟨by omega, by omega, by omega, by omega, by simp⟩
    · simp [hc]
  refine condP_ndec (fun h1 => condP_ndec (fun h2 => ⟨?_, rfl⟩) (fun h2 => ?_)) (fun h1 => ?_)
  · have hd : digitsF s 8 13 = false := by unfold digitsF; rw [decide_eq_false h1, decide_eq_false h2]; rfl
    simp [validIDF, hd]
  · have hl : s.length = 8 ∨ s.length = 13 := by omega
    rw [e1 hl]
    exact ⟨by simp only [inR]; omega, by omega, trivial, main hl⟩
  · have hl : s.length = 8 ∨ s.length = 13 := by omega
    rw [e1 hl]
    exact ⟨by simp only [inR]; omega, by omega, trivial, main hl⟩

end Go.Eng
