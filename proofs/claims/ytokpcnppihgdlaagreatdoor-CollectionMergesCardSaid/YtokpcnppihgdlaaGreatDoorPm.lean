/- What the library's functions compute: plain functions. -/
import Derived.Test.YtokpcnppihgdlaaGreatDoorPe
import Derived.Test.YtokpcnppihgdlaaGreatDoorProg
import Derived.Test.YtokpcnppihgdlaaGreatDoorPl
import Derived.KernelRfl
import Derived.HandedShaped
import Derived.ProofKit
import Derived.Below
namespace Go.Eng
open Go.Proofs
def te : TE := [
  (0, ⟨.tuple #[], 1, 0, .tuple #[], false⟩),
  (1, ⟨.func #[] #[] false, 1, 8, .nilFunc, false⟩),
  (2, ⟨.int .i64, 1, 8, .int .i64 0, false⟩),
  (3, ⟨.int .i64, 1, 8, .int .i64 0, false⟩),
  (4, ⟨.bool, 1, 1, .bool false, false⟩),
  (5, ⟨.int .u8, 1, 1, .int .u8 0, false⟩),
  (6, ⟨.int .u8, 1, 1, .int .u8 0, false⟩),
  (7, ⟨.struct #[⟨ "x", 2, 0, false, "", "runtime", 0⟩, ⟨ "y", 3, 1, false, "", "runtime", 8⟩, ⟨ "signed", 4, 2, false, "", "runtime", 16⟩, ⟨ "code", 6, 3, false, "", "runtime", 17⟩], 4, 24, .agg #[.int .i64 0, .int .i64 0, .bool false, .int .u8 0], true⟩),
  (8, ⟨.struct #[⟨ "x", 2, 0, false, "", "runtime", 0⟩, ⟨ "y", 3, 1, false, "", "runtime", 8⟩, ⟨ "signed", 4, 2, false, "", "runtime", 16⟩, ⟨ "code", 6, 3, false, "", "runtime", 17⟩], 4, 24, .agg #[.int .i64 0, .int .i64 0, .bool false, .int .u8 0], true⟩),
  (9, ⟨.string, 1, 16, .string { data := #[] }, false⟩),
  (10, ⟨.string, 1, 16, .string { data := #[] }, false⟩),
  (11, ⟨.string, 1, 16, .string { data := #[] }, false⟩),
  (12, ⟨.int .u64, 1, 8, .int .u64 0, false⟩),
  (13, ⟨.struct #[⟨ "msg", 9, 0, false, "", "runtime", 0⟩, ⟨ "addr", 12, 1, false, "", "runtime", 16⟩], 2, 24, .agg #[.string { data := #[] }, .int .u64 0], false⟩),
  (14, ⟨.struct #[⟨ "msg", 9, 0, false, "", "runtime", 0⟩, ⟨ "addr", 12, 1, false, "", "runtime", 16⟩], 2, 24, .agg #[.string { data := #[] }, .int .u64 0], false⟩),
  (15, ⟨.pointer 232, 1, 8, .pointer none, false⟩),
  (16, ⟨.pointer 235, 1, 8, .pointer none, false⟩),
  (17, ⟨.pointer 243, 1, 8, .pointer none, false⟩),
  (18, ⟨.struct #[⟨ "typ", 17, 0, false, "", "internal/runtime/maps", 0⟩], 1, 8, .agg #[.pointer none], false⟩),
  (19, ⟨.struct #[⟨ "typ", 17, 0, false, "", "internal/runtime/maps", 0⟩], 1, 8, .agg #[.pointer none], false⟩),
  (20, ⟨.interface #[], 1, 16, .nilIface, false⟩),
  (21, ⟨.int .i32, 1, 4, .int .i32 0, false⟩),
  (22, ⟨.slice 39, 1, 24, .slice none 0 0, false⟩),
  (23, ⟨.slice 3, 1, 24, .slice none 0 0, false⟩),
  (24, ⟨.func #[22] #[22] false, 1, 8, .nilFunc, false⟩),
  (25, ⟨.func #[26] #[22] false, 1, 8, .nilFunc, false⟩),
  (26, ⟨.pointer 28, 1, 8, .pointer none, false⟩),
  (27, ⟨.struct #[⟨ "L", 23, 0, false, "", "", 0⟩, ⟨ "At", 3, 1, false, "", "", 24⟩], 2, 32, .agg #[.slice none 0 0, .int .i64 0], true⟩),
  (28, ⟨.struct #[⟨ "L", 23, 0, false, "", "", 0⟩, ⟨ "At", 3, 1, false, "", "", 24⟩], 2, 32, .agg #[.slice none 0 0, .int .i64 0], true⟩),
  (29, ⟨.slice 22, 1, 24, .slice none 0 0, false⟩),
  (30, ⟨.int .i64, 1, 8, .int .i64 0, false⟩),
  (31, ⟨.tuple #[22, 30], 1, 0, .tuple #[.slice none 0 0, .int .i64 0], false⟩),
  (32, ⟨.func #[22] #[22, 30] false, 1, 8, .nilFunc, false⟩),
  (33, ⟨.func #[22] #[30] false, 1, 8, .nilFunc, false⟩),
  (34, ⟨.func #[22, 22] #[4] false, 1, 8, .nilFunc, false⟩),
  (35, ⟨.func #[] #[4] false, 1, 8, .nilFunc, false⟩),
  (36, ⟨.func #[22, 23] #[4] false, 1, 8, .nilFunc, false⟩),
  (37, ⟨.func #[3, 3] #[3] false, 1, 8, .nilFunc, false⟩),
  (38, ⟨.struct #[⟨ "Outlet", 9, 0, false, "", "", 0⟩, ⟨ "Product", 9, 1, false, "", "", 16⟩, ⟨ "Period", 3, 2, false, "", "", 32⟩, ⟨ "Units", 2, 3, false, "", "", 40⟩, ⟨ "Turnover", 2, 4, false, "", "", 48⟩], 5, 56, .agg #[.string { data := #[] }, .string { data := #[] }, .int .i64 0, .int .i64 0, .int .i64 0], true⟩),
  (39, ⟨.struct #[⟨ "Outlet", 9, 0, false, "", "", 0⟩, ⟨ "Product", 9, 1, false, "", "", 16⟩, ⟨ "Period", 3, 2, false, "", "", 32⟩, ⟨ "Units", 2, 3, false, "", "", 40⟩, ⟨ "Turnover", 2, 4, false, "", "", 48⟩], 5, 56, .agg #[.string { data := #[] }, .string { data := #[] }, .int .i64 0, .int .i64 0, .int .i64 0], true⟩),
  (40, ⟨.func #[] #[39] false, 1, 8, .nilFunc, false⟩),
  (41, ⟨.func #[3] #[4] false, 1, 8, .nilFunc, false⟩),
  (42, ⟨.func #[3] #[22] false, 1, 8, .nilFunc, false⟩),
  (43, ⟨.func #[23] #[4] false, 1, 8, .nilFunc, false⟩),
  (44, ⟨.slice 96, 1, 24, .slice none 0 0, false⟩),
  (45, ⟨.func #[3, 3] #[44] false, 1, 8, .nilFunc, false⟩),
  (46, ⟨.func #[3] #[3] false, 1, 8, .nilFunc, false⟩),
  (47, ⟨.tuple #[2, 2], 1, 0, .tuple #[.int .i64 0, .int .i64 0], false⟩),
  (48, ⟨.func #[22, 44, 3] #[2, 2] false, 1, 8, .nilFunc, false⟩),
  (49, ⟨.func #[22, 3] #[2] false, 1, 8, .nilFunc, false⟩),
  (50, ⟨.func #[22, 3, 23] #[4] false, 1, 8, .nilFunc, false⟩),
  (51, ⟨.struct #[⟨ "Outlet", 9, 0, false, "", "", 0⟩, ⟨ "Product", 9, 1, false, "", "", 16⟩, ⟨ "Period", 3, 2, false, "", "", 32⟩, ⟨ "Day", 3, 3, false, "", "", 40⟩, ⟨ "Status", 3, 4, false, "", "", 48⟩, ⟨ "Price", 2, 5, false, "", "", 56⟩, ⟨ "Replacement", 9, 6, false, "", "", 64⟩], 7, 80, .agg #[.string { data := #[] }, .string { data := #[] }, .int .i64 0, .int .i64 0, .int .i64 0, .int .i64 0, .string { data := #[] }], true⟩),
  (52, ⟨.struct #[⟨ "Outlet", 9, 0, false, "", "", 0⟩, ⟨ "Product", 9, 1, false, "", "", 16⟩, ⟨ "Period", 3, 2, false, "", "", 32⟩, ⟨ "Day", 3, 3, false, "", "", 40⟩, ⟨ "Status", 3, 4, false, "", "", 48⟩, ⟨ "Price", 2, 5, false, "", "", 56⟩, ⟨ "Replacement", 9, 6, false, "", "", 64⟩], 7, 80, .agg #[.string { data := #[] }, .string { data := #[] }, .int .i64 0, .int .i64 0, .int .i64 0, .int .i64 0, .string { data := #[] }], true⟩),
  (53, ⟨.struct #[⟨ "Outlet", 9, 0, false, "", "", 0⟩, ⟨ "Product", 9, 1, false, "", "", 16⟩, ⟨ "Period", 3, 2, false, "", "", 32⟩, ⟨ "Device", 9, 3, false, "", "", 40⟩, ⟨ "Number", 3, 4, false, "", "", 56⟩], 5, 64, .agg #[.string { data := #[] }, .string { data := #[] }, .int .i64 0, .string { data := #[] }, .int .i64 0], true⟩),
  (54, ⟨.struct #[⟨ "Outlet", 9, 0, false, "", "", 0⟩, ⟨ "Product", 9, 1, false, "", "", 16⟩, ⟨ "Period", 3, 2, false, "", "", 32⟩, ⟨ "Device", 9, 3, false, "", "", 40⟩, ⟨ "Number", 3, 4, false, "", "", 56⟩], 5, 64, .agg #[.string { data := #[] }, .string { data := #[] }, .int .i64 0, .string { data := #[] }, .int .i64 0], true⟩),
  (55, ⟨.struct #[⟨ "Device", 9, 0, false, "", "", 0⟩, ⟨ "Sequence", 3, 1, false, "", "", 16⟩, ⟨ "Kind", 3, 2, false, "", "", 24⟩, ⟨ "Visit", 52, 3, false, "", "", 32⟩, ⟨ "Decision", 54, 10, false, "", "", 112⟩], 15, 176, .agg #[.string { data := #[] }, .int .i64 0, .int .i64 0, .string { data := #[] }, .string { data := #[] }, .int .i64 0, .int .i64 0, .int .i64 0, .int .i64 0, .string { data := #[] }, .string { data := #[] }, .string { data := #[] }, .int .i64 0, .string { data := #[] }, .int .i64 0], true⟩),
  (56, ⟨.struct #[⟨ "Device", 9, 0, false, "", "", 0⟩, ⟨ "Sequence", 3, 1, false, "", "", 16⟩, ⟨ "Kind", 3, 2, false, "", "", 24⟩, ⟨ "Visit", 52, 3, false, "", "", 32⟩, ⟨ "Decision", 54, 10, false, "", "", 112⟩], 15, 176, .agg #[.string { data := #[] }, .int .i64 0, .int .i64 0, .string { data := #[] }, .string { data := #[] }, .int .i64 0, .int .i64 0, .int .i64 0, .int .i64 0, .string { data := #[] }, .string { data := #[] }, .string { data := #[] }, .int .i64 0, .string { data := #[] }, .int .i64 0], true⟩),
  (57, ⟨.func #[26] #[56] false, 1, 8, .nilFunc, false⟩),
  (58, ⟨.slice 56, 1, 24, .slice none 0 0, false⟩),
  (59, ⟨.func #[58] #[58] false, 1, 8, .nilFunc, false⟩),
  (60, ⟨.func #[56] #[30] false, 1, 8, .nilFunc, false⟩),
  (61, ⟨.func #[56, 23] #[4] false, 1, 8, .nilFunc, false⟩),
  (62, ⟨.func #[26] #[58] false, 1, 8, .nilFunc, false⟩),
  (63, ⟨.func #[58, 58] #[4] false, 1, 8, .nilFunc, false⟩),
  (64, ⟨.func #[58, 58] #[58] false, 1, 8, .nilFunc, false⟩),
  (65, ⟨.func #[58, 58, 23] #[4] false, 1, 8, .nilFunc, false⟩),
  (66, ⟨.func #[26, 58] #[58] false, 1, 8, .nilFunc, false⟩),
  (67, ⟨.tuple #[52, 3], 1, 0, .tuple #[.agg #[.string { data := #[] }, .string { data := #[] }, .int .i64 0, .int .i64 0, .int .i64 0, .int .i64 0, .string { data := #[] }], .int .i64 0], false⟩),
  (68, ⟨.func #[58, 9, 9, 3] #[52, 3] false, 1, 8, .nilFunc, false⟩),
  (69, ⟨.func #[58, 9, 9, 3, 23] #[4] false, 1, 8, .nilFunc, false⟩),
  (70, ⟨.func #[3] #[9] false, 1, 8, .nilFunc, false⟩),
  (71, ⟨.func #[] #[9] false, 1, 8, .nilFunc, false⟩),
  (72, ⟨.func #[] #[52] false, 1, 8, .nilFunc, false⟩),
  (73, ⟨.func #[] #[56] false, 1, 8, .nilFunc, false⟩),
  (74, ⟨.func #[3, 23] #[4] false, 1, 8, .nilFunc, false⟩),
  (75, ⟨.func #[58, 9, 9, 3] #[58] false, 1, 8, .nilFunc, false⟩),
  (76, ⟨.slice 79, 1, 24, .slice none 0 0, false⟩),
  (77, ⟨.func #[58] #[76] false, 1, 8, .nilFunc, false⟩),
  (78, ⟨.struct #[⟨ "Device", 9, 0, false, "", "", 0⟩, ⟨ "Sequence", 3, 1, false, "", "", 16⟩], 2, 24, .agg #[.string { data := #[] }, .int .i64 0], true⟩),
  (79, ⟨.struct #[⟨ "Device", 9, 0, false, "", "", 0⟩, ⟨ "Sequence", 3, 1, false, "", "", 16⟩], 2, 24, .agg #[.string { data := #[] }, .int .i64 0], true⟩),
  (80, ⟨.slice 9, 1, 24, .slice none 0 0, false⟩),
  (81, ⟨.slice 2, 1, 24, .slice none 0 0, false⟩),
  (82, ⟨.map 84 39, 1, 8, .map none, false⟩),
  (83, ⟨.struct #[⟨ "outlet", 9, 0, false, "", "priceoffice/scanner", 0⟩, ⟨ "product", 9, 1, false, "", "priceoffice/scanner", 16⟩, ⟨ "period", 3, 2, false, "", "priceoffice/scanner", 32⟩], 3, 40, .agg #[.string { data := #[] }, .string { data := #[] }, .int .i64 0], true⟩),
  (84, ⟨.struct #[⟨ "outlet", 9, 0, false, "", "priceoffice/scanner", 0⟩, ⟨ "product", 9, 1, false, "", "priceoffice/scanner", 16⟩, ⟨ "period", 3, 2, false, "", "priceoffice/scanner", 32⟩], 3, 40, .agg #[.string { data := #[] }, .string { data := #[] }, .int .i64 0], true⟩),
  (85, ⟨.func #[22, 88] #[] false, 1, 8, .nilFunc, false⟩),
  (86, ⟨.func #[23] #[3] true, 1, 8, .nilFunc, false⟩),
  (87, ⟨.func #[9, 9] #[3] false, 1, 8, .nilFunc, false⟩),
  (88, ⟨.func #[39, 39] #[3] false, 1, 8, .nilFunc, false⟩),
  (89, ⟨.func #[39, 39] #[4] false, 1, 8, .nilFunc, false⟩),
  (90, ⟨.func #[39] #[4] false, 1, 8, .nilFunc, false⟩),
  (91, ⟨.int .u64, 1, 8, .int .u64 0, false⟩),
  (92, ⟨.struct #[⟨ "Dimension", 3, 0, false, "", "", 0⟩, ⟨ "Count", 3, 1, false, "", "", 8⟩, ⟨ "Amount", 2, 2, false, "", "", 16⟩], 3, 24, .agg #[.int .i64 0, .int .i64 0, .int .i64 0], true⟩),
  (93, ⟨.struct #[⟨ "Dimension", 3, 0, false, "", "", 0⟩, ⟨ "Count", 3, 1, false, "", "", 8⟩, ⟨ "Amount", 2, 2, false, "", "", 16⟩], 3, 24, .agg #[.int .i64 0, .int .i64 0, .int .i64 0], true⟩),
  (94, ⟨.slice 122, 1, 24, .slice none 0 0, false⟩),
  (95, ⟨.struct #[⟨ "ID", 9, 0, false, "", "", 0⟩, ⟨ "Code", 9, 1, false, "", "", 16⟩, ⟨ "Brand", 9, 2, false, "", "", 32⟩, ⟨ "Size", 93, 3, false, "", "", 48⟩, ⟨ "Attributes", 94, 6, false, "", "", 72⟩], 7, 96, .agg #[.string { data := #[] }, .string { data := #[] }, .string { data := #[] }, .int .i64 0, .int .i64 0, .int .i64 0, .slice none 0 0], true⟩),
  (96, ⟨.struct #[⟨ "ID", 9, 0, false, "", "", 0⟩, ⟨ "Code", 9, 1, false, "", "", 16⟩, ⟨ "Brand", 9, 2, false, "", "", 32⟩, ⟨ "Size", 93, 3, false, "", "", 48⟩, ⟨ "Attributes", 94, 6, false, "", "", 72⟩], 7, 96, .agg #[.string { data := #[] }, .string { data := #[] }, .string { data := #[] }, .int .i64 0, .int .i64 0, .int .i64 0, .slice none 0 0], true⟩),
  (97, ⟨.func #[3] #[96] false, 1, 8, .nilFunc, false⟩),
  (98, ⟨.map 9 2, 1, 8, .map none, false⟩),
  (99, ⟨.func #[22, 3] #[98] false, 1, 8, .nilFunc, false⟩),
  (100, ⟨.tuple #[96, 4], 1, 0, .tuple #[.agg #[.string { data := #[] }, .string { data := #[] }, .string { data := #[] }, .int .i64 0, .int .i64 0, .int .i64 0, .slice none 0 0], .bool false], false⟩),
  (101, ⟨.func #[44, 9] #[96, 4] false, 1, 8, .nilFunc, false⟩),
  (102, ⟨.func #[9] #[4] false, 1, 8, .nilFunc, false⟩),
  (103, ⟨.func #[52] #[4] false, 1, 8, .nilFunc, false⟩),
  (104, ⟨.func #[9, 9, 3] #[4] false, 1, 8, .nilFunc, false⟩),
  (105, ⟨.func #[54] #[4] false, 1, 8, .nilFunc, false⟩),
  (106, ⟨.func #[3] #[58] false, 1, 8, .nilFunc, false⟩),
  (107, ⟨.func #[127] #[58] true, 1, 8, .nilFunc, false⟩),
  (108, ⟨.func #[58, 109] #[] false, 1, 8, .nilFunc, false⟩),
  (109, ⟨.func #[56, 56] #[3] false, 1, 8, .nilFunc, false⟩),
  (110, ⟨.func #[58, 111] #[4] false, 1, 8, .nilFunc, false⟩),
  (111, ⟨.func #[56] #[4] false, 1, 8, .nilFunc, false⟩),
  (112, ⟨.func #[58, 111] #[3] false, 1, 8, .nilFunc, false⟩),
  (113, ⟨.func #[56] #[79] false, 1, 8, .nilFunc, false⟩),
  (114, ⟨.slice 5, 1, 24, .slice none 0 0, false⟩),
  (115, ⟨.tuple #[3, 4], 1, 0, .tuple #[.int .i64 0, .bool false], false⟩),
  (116, ⟨.func #[9] #[3, 4] false, 1, 8, .nilFunc, false⟩),
  (117, ⟨.func #[52, 9, 9, 3] #[4] false, 1, 8, .nilFunc, false⟩),
  (118, ⟨.func #[22, 3, 3, 3, 88] #[] false, 1, 8, .nilFunc, false⟩),
  (119, ⟨.func #[120] #[3] false, 1, 8, .nilFunc, false⟩),
  (120, ⟨.int .u64, 1, 8, .int .u64 0, false⟩),
  (121, ⟨.struct #[⟨ "Name", 9, 0, false, "", "", 0⟩, ⟨ "Value", 9, 1, false, "", "", 16⟩], 2, 32, .agg #[.string { data := #[] }, .string { data := #[] }], true⟩),
  (122, ⟨.struct #[⟨ "Name", 9, 0, false, "", "", 0⟩, ⟨ "Value", 9, 1, false, "", "", 16⟩], 2, 32, .agg #[.string { data := #[] }, .string { data := #[] }], true⟩),
  (123, ⟨.func #[44, 124] #[3] false, 1, 8, .nilFunc, false⟩),
  (124, ⟨.func #[96] #[4] false, 1, 8, .nilFunc, false⟩),
  (125, ⟨.func #[94] #[94] false, 1, 8, .nilFunc, false⟩),
  (126, ⟨.func #[96] #[30] false, 1, 8, .nilFunc, false⟩),
  (127, ⟨.slice 58, 1, 24, .slice none 0 0, false⟩),
  (128, ⟨.func #[58, 3] #[58] false, 1, 8, .nilFunc, false⟩),
  (129, ⟨.func #[58, 3, 3, 3, 109] #[] false, 1, 8, .nilFunc, false⟩),
  (130, ⟨.func #[2, 2] #[3] false, 1, 8, .nilFunc, false⟩),
  (131, ⟨.map 79 3, 1, 8, .map none, false⟩),
  (132, ⟨.func #[58] #[131] false, 1, 8, .nilFunc, false⟩),
  (133, ⟨.func #[58, 111] #[58] false, 1, 8, .nilFunc, false⟩),
  (134, ⟨.func #[56, 56] #[4] false, 1, 8, .nilFunc, false⟩),
  (135, ⟨.func #[22, 3, 3, 88] #[] false, 1, 8, .nilFunc, false⟩),
  (136, ⟨.int .i64, 1, 8, .int .i64 0, false⟩),
  (137, ⟨.tuple #[3, 136], 1, 0, .tuple #[.int .i64 0, .int .i64 0], false⟩),
  (138, ⟨.func #[22, 3, 3, 88] #[3, 136] false, 1, 8, .nilFunc, false⟩),
  (139, ⟨.func #[22, 3, 3, 88] #[4] false, 1, 8, .nilFunc, false⟩),
  (140, ⟨.func #[22, 3, 3, 3, 88] #[3] false, 1, 8, .nilFunc, false⟩),
  (141, ⟨.func #[22, 3, 3, 3, 88] #[3, 4] false, 1, 8, .nilFunc, false⟩),
  (142, ⟨.func #[143] #[3] false, 1, 8, .nilFunc, false⟩),
  (143, ⟨.int .u32, 1, 4, .int .u32 0, false⟩),
  (144, ⟨.func #[91] #[3] false, 1, 8, .nilFunc, false⟩),
  (145, ⟨.func #[9, 3, 3] #[4] false, 1, 8, .nilFunc, false⟩),
  (146, ⟨.func #[9] #[3] false, 1, 8, .nilFunc, false⟩),
  (147, ⟨.func #[93] #[30] false, 1, 8, .nilFunc, false⟩),
  (148, ⟨.map 9 4, 1, 8, .map none, false⟩),
  (149, ⟨.func #[58, 3, 3, 109] #[] false, 1, 8, .nilFunc, false⟩),
  (150, ⟨.func #[58, 3, 3, 109] #[3, 136] false, 1, 8, .nilFunc, false⟩),
  (151, ⟨.func #[58, 3, 3, 109] #[4] false, 1, 8, .nilFunc, false⟩),
  (152, ⟨.func #[58, 3, 3, 3, 109] #[3] false, 1, 8, .nilFunc, false⟩),
  (153, ⟨.func #[58, 3, 3, 3, 109] #[3, 4] false, 1, 8, .nilFunc, false⟩),
  (154, ⟨.func #[2] #[4] false, 1, 8, .nilFunc, false⟩),
  (155, ⟨.int .u64, 1, 8, .int .u64 0, false⟩),
  (156, ⟨.func #[3] #[120] false, 1, 8, .nilFunc, false⟩),
  (157, ⟨.func #[] #[91] false, 1, 8, .nilFunc, false⟩),
  (158, ⟨.func #[22, 3, 159, 88] #[3] false, 1, 8, .nilFunc, false⟩),
  (159, ⟨.pointer 3, 1, 8, .pointer none, false⟩),
  (160, ⟨.func #[22, 3, 3, 3, 159, 88] #[3] false, 1, 8, .nilFunc, false⟩),
  (161, ⟨.func #[9, 9] #[9] false, 1, 8, .nilFunc, false⟩),
  (162, ⟨.tuple #[23, 30], 1, 0, .tuple #[.slice none 0 0, .int .i64 0], false⟩),
  (163, ⟨.func #[9] #[23, 30] false, 1, 8, .nilFunc, false⟩),
  (164, ⟨.func #[9, 166] #[4] false, 1, 8, .nilFunc, false⟩),
  (165, ⟨.func #[9, 21] #[4] false, 1, 8, .nilFunc, false⟩),
  (166, ⟨.func #[21] #[4] false, 1, 8, .nilFunc, false⟩),
  (167, ⟨.func #[58, 3, 159, 109] #[3] false, 1, 8, .nilFunc, false⟩),
  (168, ⟨.func #[58, 3, 3, 3, 159, 109] #[3] false, 1, 8, .nilFunc, false⟩),
  (169, ⟨.pointer 155, 1, 8, .pointer none, false⟩),
  (170, ⟨.tuple #[3, 3], 1, 0, .tuple #[.int .i64 0, .int .i64 0], false⟩),
  (171, ⟨.func #[22, 3, 3, 159, 88] #[3, 3] false, 1, 8, .nilFunc, false⟩),
  (172, ⟨.func #[9, 5] #[9] false, 1, 8, .nilFunc, false⟩),
  (176, ⟨.func #[9] #[174, 4] false, 1, 8, .nilFunc, false⟩),
  (177, ⟨.func #[9, 178] #[9] false, 1, 8, .nilFunc, false⟩),
  (178, ⟨.pointer 174, 1, 8, .pointer none, false⟩),
  (179, ⟨.func #[9, 9] #[80] false, 1, 8, .nilFunc, false⟩),
  (180, ⟨.interface #[("Error", 71)], 1, 16, .nilIface, false⟩),
  (181, ⟨.interface #[("Error", 71)], 1, 16, .nilIface, false⟩),
  (182, ⟨.tuple #[3, 181], 1, 0, .tuple #[.int .i64 0, .nilIface], false⟩),
  (183, ⟨.func #[9] #[3, 181] false, 1, 8, .nilFunc, false⟩),
  (184, ⟨.tuple #[9, 30], 1, 0, .tuple #[.string { data := #[] }, .int .i64 0], false⟩),
  (185, ⟨.func #[23] #[9, 30] false, 1, 8, .nilFunc, false⟩),
  (186, ⟨.func #[9, 166] #[3] false, 1, 8, .nilFunc, false⟩),
  (187, ⟨.func #[9, 21] #[3] false, 1, 8, .nilFunc, false⟩),
  (188, ⟨.func #[58, 3, 3, 159, 109] #[3, 3] false, 1, 8, .nilFunc, false⟩),
  (189, ⟨.func #[5] #[4] false, 1, 8, .nilFunc, false⟩),
  (190, ⟨.tuple #[21, 3], 1, 0, .tuple #[.int .i32 0, .int .i64 0], false⟩),
  (191, ⟨.func #[9] #[21, 3] false, 1, 8, .nilFunc, false⟩),
  (192, ⟨.func #[9, 9, 3, 3] #[80] false, 1, 8, .nilFunc, false⟩),
  (193, ⟨.func #[9, 9, 3, 3, 181] #[181] false, 1, 8, .nilFunc, false⟩),
  (194, ⟨.func #[23] #[3] false, 1, 8, .nilFunc, false⟩),
  (195, ⟨.func #[9, 166, 4] #[3] false, 1, 8, .nilFunc, false⟩),
  (196, ⟨.func #[9, 5] #[3] false, 1, 8, .nilFunc, false⟩),
  (197, ⟨.func #[9, 3] #[80] false, 1, 8, .nilFunc, false⟩),
  (198, ⟨.int .i64, 1, 8, .int .i64 0, false⟩),
  (199, ⟨.tuple #[2, 181], 1, 0, .tuple #[.int .i64 0, .nilIface], false⟩),
  (200, ⟨.func #[9, 3, 3] #[2, 181] false, 1, 8, .nilFunc, false⟩),
  (201, ⟨.pointer 212, 1, 8, .pointer none, false⟩),
  (202, ⟨.func #[9, 9] #[201] false, 1, 8, .nilFunc, false⟩),
  (203, ⟨.func #[9, 9, 3] #[201] false, 1, 8, .nilFunc, false⟩),
  (205, ⟨.struct #[⟨ "lo", 5, 0, false, "", "unicode/utf8", 0⟩, ⟨ "hi", 5, 1, false, "", "unicode/utf8", 1⟩], 2, 2, .agg #[.int .u8 0, .int .u8 0], true⟩),
  (206, ⟨.struct #[⟨ "lo", 5, 0, false, "", "unicode/utf8", 0⟩, ⟨ "hi", 5, 1, false, "", "unicode/utf8", 1⟩], 2, 2, .agg #[.int .u8 0, .int .u8 0], true⟩),
  (207, ⟨.array 16 206, 32, 32, .agg #[.int .u8 0, .int .u8 0, .int .u8 0, .int .u8 0, .int .u8 0, .int .u8 0, .int .u8 0, .int .u8 0, .int .u8 0, .int .u8 0, .int .u8 0, .int .u8 0, .int .u8 0, .int .u8 0, .int .u8 0, .int .u8 0, .int .u8 0, .int .u8 0, .int .u8 0, .int .u8 0, .int .u8 0, .int .u8 0, .int .u8 0, .int .u8 0, .int .u8 0, .int .u8 0, .int .u8 0, .int .u8 0, .int .u8 0, .int .u8 0, .int .u8 0, .int .u8 0], false⟩),
  (208, ⟨.tuple #[91, 181], 1, 0, .tuple #[.int .u64 0, .nilIface], false⟩),
  (209, ⟨.func #[9, 3, 3] #[91, 181] false, 1, 8, .nilFunc, false⟩),
  (210, ⟨.func #[9] #[9] false, 1, 8, .nilFunc, false⟩),
  (211, ⟨.struct #[⟨ "Func", 9, 0, false, "", "", 0⟩, ⟨ "Num", 9, 1, false, "", "", 16⟩, ⟨ "Err", 181, 2, false, "", "", 32⟩], 3, 48, .agg #[.string { data := #[] }, .string { data := #[] }, .nilIface], false⟩),
  (212, ⟨.struct #[⟨ "Func", 9, 0, false, "", "", 0⟩, ⟨ "Num", 9, 1, false, "", "", 16⟩, ⟨ "Err", 181, 2, false, "", "", 32⟩], 3, 48, .agg #[.string { data := #[] }, .string { data := #[] }, .nilIface], false⟩),
  (213, ⟨.func #[9] #[181] false, 1, 8, .nilFunc, false⟩),
  (214, ⟨.func #[2, 3] #[9] false, 1, 8, .nilFunc, false⟩),
  (215, ⟨.func #[5] #[5] false, 1, 8, .nilFunc, false⟩),
  (216, ⟨.pointer 5, 1, 8, .pointer none, false⟩),
  (217, ⟨.pointer 219, 1, 8, .pointer none, false⟩),
  (218, ⟨.struct #[⟨ "s", 9, 0, false, "", "errors", 0⟩], 1, 16, .agg #[.string { data := #[] }], true⟩),
  (219, ⟨.struct #[⟨ "s", 9, 0, false, "", "errors", 0⟩], 1, 16, .agg #[.string { data := #[] }], true⟩),
  (220, ⟨.array 24 5, 24, 24, .agg #[.int .u8 0, .int .u8 0, .int .u8 0, .int .u8 0, .int .u8 0, .int .u8 0, .int .u8 0, .int .u8 0, .int .u8 0, .int .u8 0, .int .u8 0, .int .u8 0, .int .u8 0, .int .u8 0, .int .u8 0, .int .u8 0, .int .u8 0, .int .u8 0, .int .u8 0, .int .u8 0, .int .u8 0, .int .u8 0, .int .u8 0, .int .u8 0], false⟩),
  (221, ⟨.func #[114, 91] #[] false, 1, 8, .nilFunc, false⟩),
  (222, ⟨.tuple #[114, 9], 1, 0, .tuple #[.slice none 0 0, .string { data := #[] }], false⟩),
  (223, ⟨.func #[114, 91, 3, 4, 4] #[114, 9] false, 1, 8, .nilFunc, false⟩),
  (224, ⟨.tuple #[143, 143], 1, 0, .tuple #[.int .u32 0, .int .u32 0], false⟩),
  (225, ⟨.func #[9] #[143, 143] false, 1, 8, .nilFunc, false⟩),
  (226, ⟨.func #[4] #[3] false, 1, 8, .nilFunc, false⟩),
  (227, ⟨.array 20 91, 20, 160, .agg #[.int .u64 0, .int .u64 0, .int .u64 0, .int .u64 0, .int .u64 0, .int .u64 0, .int .u64 0, .int .u64 0, .int .u64 0, .int .u64 0, .int .u64 0, .int .u64 0, .int .u64 0, .int .u64 0, .int .u64 0, .int .u64 0, .int .u64 0, .int .u64 0, .int .u64 0, .int .u64 0], false⟩),
  (228, ⟨.array 65 5, 65, 65, .agg ([.int .u8 0, .int .u8 0, .int .u8 0, .int .u8 0, .int .u8 0, .int .u8 0, .int .u8 0, .int .u8 0, .int .u8 0, .int .u8 0, .int .u8 0, .int .u8 0, .int .u8 0, .int .u8 0, .int .u8 0, .int .u8 0, .int .u8 0, .int .u8 0, .int .u8 0, .int .u8 0, .int .u8 0, .int .u8 0, .int .u8 0, .int .u8 0, .int .u8 0, .int .u8 0, .int .u8 0, .int .u8 0, .int .u8 0, .int .u8 0, .int .u8 0, .int .u8 0].append [.int .u8 0, .int .u8 0, .int .u8 0, .int .u8 0, .int .u8 0, .int .u8 0, .int .u8 0, .int .u8 0, .int .u8 0, .int .u8 0, .int .u8 0, .int .u8 0, .int .u8 0, .int .u8 0, .int .u8 0, .int .u8 0, .int .u8 0, .int .u8 0, .int .u8 0, .int .u8 0, .int .u8 0, .int .u8 0, .int .u8 0, .int .u8 0, .int .u8 0, .int .u8 0, .int .u8 0, .int .u8 0, .int .u8 0, .int .u8 0, .int .u8 0, .int .u8 0, .int .u8 0]).toArray, false⟩),
  (229, ⟨.array 32 5, 32, 32, .agg #[.int .u8 0, .int .u8 0, .int .u8 0, .int .u8 0, .int .u8 0, .int .u8 0, .int .u8 0, .int .u8 0, .int .u8 0, .int .u8 0, .int .u8 0, .int .u8 0, .int .u8 0, .int .u8 0, .int .u8 0, .int .u8 0, .int .u8 0, .int .u8 0, .int .u8 0, .int .u8 0, .int .u8 0, .int .u8 0, .int .u8 0, .int .u8 0, .int .u8 0, .int .u8 0, .int .u8 0, .int .u8 0, .int .u8 0, .int .u8 0, .int .u8 0, .int .u8 0], false⟩),
  (230, ⟨.array 64 5, 64, 64, .agg #[.int .u8 0, .int .u8 0, .int .u8 0, .int .u8 0, .int .u8 0, .int .u8 0, .int .u8 0, .int .u8 0, .int .u8 0, .int .u8 0, .int .u8 0, .int .u8 0, .int .u8 0, .int .u8 0, .int .u8 0, .int .u8 0, .int .u8 0, .int .u8 0, .int .u8 0, .int .u8 0, .int .u8 0, .int .u8 0, .int .u8 0, .int .u8 0, .int .u8 0, .int .u8 0, .int .u8 0, .int .u8 0, .int .u8 0, .int .u8 0, .int .u8 0, .int .u8 0, .int .u8 0, .int .u8 0, .int .u8 0, .int .u8 0, .int .u8 0, .int .u8 0, .int .u8 0, .int .u8 0, .int .u8 0, .int .u8 0, .int .u8 0, .int .u8 0, .int .u8 0, .int .u8 0, .int .u8 0, .int .u8 0, .int .u8 0, .int .u8 0, .int .u8 0, .int .u8 0, .int .u8 0, .int .u8 0, .int .u8 0, .int .u8 0, .int .u8 0, .int .u8 0, .int .u8 0, .int .u8 0, .int .u8 0, .int .u8 0, .int .u8 0, .int .u8 0], false⟩),
  (231, ⟨.struct #[⟨ "_interface", 17, 0, false, "", "runtime", 0⟩, ⟨ "concrete", 17, 1, false, "", "runtime", 8⟩, ⟨ "asserted", 17, 2, false, "", "runtime", 16⟩, ⟨ "missingMethod", 9, 3, false, "", "runtime", 24⟩], 4, 40, .agg #[.pointer none, .pointer none, .pointer none, .string { data := #[] }], false⟩),
  (232, ⟨.struct #[⟨ "_interface", 17, 0, false, "", "runtime", 0⟩, ⟨ "concrete", 17, 1, false, "", "runtime", 8⟩, ⟨ "asserted", 17, 2, false, "", "runtime", 16⟩, ⟨ "missingMethod", 9, 3, false, "", "runtime", 24⟩], 4, 40, .agg #[.pointer none, .pointer none, .pointer none, .string { data := #[] }], false⟩),
  (233, ⟨.array 0 16, 0, 0, .agg #[], false⟩),
  (234, ⟨.struct #[⟨ "_", 233, 0, false, "", "runtime", 0⟩], 0, 0, .agg #[], false⟩),
  (235, ⟨.struct #[⟨ "_", 233, 0, false, "", "runtime", 0⟩], 0, 0, .agg #[], false⟩),
  (236, ⟨.func #[] #[3] false, 1, 8, .nilFunc, false⟩),
  (237, ⟨.int .u8, 1, 1, .int .u8 0, false⟩),
  (238, ⟨.int .u8, 1, 1, .int .u8 0, false⟩),
  (239, ⟨.func #[244, 244] #[4] false, 1, 8, .nilFunc, false⟩),
  (240, ⟨.int .i32, 1, 4, .int .i32 0, false⟩),
  (241, ⟨.int .i32, 1, 4, .int .i32 0, false⟩),
  (242, ⟨.struct #[⟨ "Size_", 12, 0, false, "", "", 0⟩, ⟨ "PtrBytes", 12, 1, false, "", "", 8⟩, ⟨ "Hash", 143, 2, false, "", "", 16⟩, ⟨ "TFlag", 237, 3, false, "", "", 20⟩, ⟨ "Align_", 5, 4, false, "", "", 21⟩, ⟨ "FieldAlign_", 5, 5, false, "", "", 22⟩, ⟨ "Kind_", 238, 6, false, "", "", 23⟩, ⟨ "Equal", 239, 7, false, "", "", 24⟩, ⟨ "GCData", 216, 8, false, "", "", 32⟩, ⟨ "Str", 240, 9, false, "", "", 40⟩, ⟨ "PtrToThis", 241, 10, false, "", "", 44⟩], 11, 48, .agg #[.int .u64 0, .int .u64 0, .int .u32 0, .int .u8 0, .int .u8 0, .int .u8 0, .int .u8 0, .nilFunc, .pointer none, .int .i32 0, .int .i32 0], false⟩),
  (243, ⟨.struct #[⟨ "Size_", 12, 0, false, "", "", 0⟩, ⟨ "PtrBytes", 12, 1, false, "", "", 8⟩, ⟨ "Hash", 143, 2, false, "", "", 16⟩, ⟨ "TFlag", 237, 3, false, "", "", 20⟩, ⟨ "Align_", 5, 4, false, "", "", 21⟩, ⟨ "FieldAlign_", 5, 5, false, "", "", 22⟩, ⟨ "Kind_", 238, 6, false, "", "", 23⟩, ⟨ "Equal", 239, 7, false, "", "", 24⟩, ⟨ "GCData", 216, 8, false, "", "", 32⟩, ⟨ "Str", 240, 9, false, "", "", 40⟩, ⟨ "PtrToThis", 241, 10, false, "", "", 44⟩], 11, 48, .agg #[.int .u64 0, .int .u64 0, .int .u32 0, .int .u8 0, .int .u8 0, .int .u8 0, .int .u8 0, .nilFunc, .pointer none, .int .i32 0, .int .i32 0], false⟩),
  (244, ⟨.unsafePointer, 1, 8, .pointer none, false⟩)]
theorem te_ok : TE.ok Tryz.prog te := by
  refine TE.ok_cons Tryz.underlying0 ⟨_, Tryz.type0, rfl, rfl, rfl⟩ nofun ?_
  refine TE.ok_cons Tryz.underlying1 ⟨_, Tryz.type1, rfl, rfl, rfl⟩ nofun ?_
  refine TE.ok_cons Tryz.underlying2 ⟨_, Tryz.type2, rfl, rfl, rfl⟩ nofun ?_
  refine TE.ok_cons Tryz.underlying3 ⟨_, Tryz.type3, rfl, rfl, rfl⟩ nofun ?_
  refine TE.ok_cons Tryz.underlying4 ⟨_, Tryz.type4, rfl, rfl, rfl⟩ nofun ?_
  refine TE.ok_cons Tryz.underlying5 ⟨_, Tryz.type5, rfl, rfl, rfl⟩ nofun ?_
  refine TE.ok_cons Tryz.underlying6 ⟨_, Tryz.type6, rfl, rfl, rfl⟩ nofun ?_
  refine TE.ok_cons Tryz.underlying7 ⟨Tryz.t7, Tryz.type7, rfl, rfl, rfl⟩ (fun _ => ⟨Tryz.stoodInHeld7, Tryz.eqGuardType7, fun fs h f hf => by cases h; revert f; decide⟩) ?_
  refine TE.ok_cons Tryz.underlying8 ⟨Tryz.t8, Tryz.type8, rfl, rfl, rfl⟩ (fun _ => ⟨Tryz.stoodInHeld8, Tryz.eqGuardType8, fun fs h f hf => by cases h; revert f; decide⟩) ?_
  refine TE.ok_cons Tryz.underlying9 ⟨_, Tryz.type9, rfl, rfl, rfl⟩ nofun ?_
  refine TE.ok_cons Tryz.underlying10 ⟨_, Tryz.type10, rfl, rfl, rfl⟩ nofun ?_
  refine TE.ok_cons Tryz.underlying11 ⟨_, Tryz.type11, rfl, rfl, rfl⟩ nofun ?_
  refine TE.ok_cons Tryz.underlying12 ⟨_, Tryz.type12, rfl, rfl, rfl⟩ nofun ?_
  refine TE.ok_cons Tryz.underlying13 ⟨_, Tryz.type13, rfl, rfl, rfl⟩ nofun ?_
  refine TE.ok_cons Tryz.underlying14 ⟨_, Tryz.type14, rfl, rfl, rfl⟩ nofun ?_
  refine TE.ok_cons Tryz.underlying15 ⟨_, Tryz.type15, rfl, rfl, rfl⟩ nofun ?_
  refine TE.ok_cons Tryz.underlying16 ⟨_, Tryz.type16, rfl, rfl, rfl⟩ nofun ?_
  refine TE.ok_cons Tryz.underlying17 ⟨_, Tryz.type17, rfl, rfl, rfl⟩ nofun ?_
  refine TE.ok_cons Tryz.underlying18 ⟨_, Tryz.type18, rfl, rfl, rfl⟩ nofun ?_
  refine TE.ok_cons Tryz.underlying19 ⟨_, Tryz.type19, rfl, rfl, rfl⟩ nofun ?_
  refine TE.ok_cons Tryz.underlying20 ⟨_, Tryz.type20, rfl, rfl, rfl⟩ nofun ?_
  refine TE.ok_cons Tryz.underlying21 ⟨_, Tryz.type21, rfl, rfl, rfl⟩ nofun ?_
  refine TE.ok_cons Tryz.underlying22 ⟨_, Tryz.type22, rfl, rfl, rfl⟩ nofun ?_
  refine TE.ok_cons Tryz.underlying23 ⟨_, Tryz.type23, rfl, rfl, rfl⟩ nofun ?_
  refine TE.ok_cons Tryz.underlying24 ⟨_, Tryz.type24, rfl, rfl, rfl⟩ nofun ?_
  refine TE.ok_cons Tryz.underlying25 ⟨_, Tryz.type25, rfl, rfl, rfl⟩ nofun ?_
  refine TE.ok_cons Tryz.underlying26 ⟨_, Tryz.type26, rfl, rfl, rfl⟩ nofun ?_
  refine TE.ok_cons Tryz.underlying27 ⟨Tryz.t27, Tryz.type27, rfl, rfl, rfl⟩ (fun _ => ⟨Tryz.stoodInHeld27, Tryz.eqGuardType27, fun fs h f hf => by cases h; revert f; decide⟩) ?_
  refine TE.ok_cons Tryz.underlying28 ⟨Tryz.t28, Tryz.type28, rfl, rfl, rfl⟩ (fun _ => ⟨Tryz.stoodInHeld28, Tryz.eqGuardType28, fun fs h f hf => by cases h; revert f; decide⟩) ?_
  refine TE.ok_cons Tryz.underlying29 ⟨_, Tryz.type29, rfl, rfl, rfl⟩ nofun ?_
  refine TE.ok_cons Tryz.underlying30 ⟨_, Tryz.type30, rfl, rfl, rfl⟩ nofun ?_
  refine TE.ok_cons Tryz.underlying31 ⟨_, Tryz.type31, rfl, rfl, rfl⟩ nofun ?_
  refine TE.ok_cons Tryz.underlying32 ⟨_, Tryz.type32, rfl, rfl, rfl⟩ nofun ?_
  refine TE.ok_cons Tryz.underlying33 ⟨_, Tryz.type33, rfl, rfl, rfl⟩ nofun ?_
  refine TE.ok_cons Tryz.underlying34 ⟨_, Tryz.type34, rfl, rfl, rfl⟩ nofun ?_
  refine TE.ok_cons Tryz.underlying35 ⟨_, Tryz.type35, rfl, rfl, rfl⟩ nofun ?_
  refine TE.ok_cons Tryz.underlying36 ⟨_, Tryz.type36, rfl, rfl, rfl⟩ nofun ?_
  refine TE.ok_cons Tryz.underlying37 ⟨_, Tryz.type37, rfl, rfl, rfl⟩ nofun ?_
  refine TE.ok_cons Tryz.underlying38 ⟨Tryz.t38, Tryz.type38, rfl, rfl, rfl⟩ (fun _ => ⟨Tryz.stoodInHeld38, Tryz.eqGuardType38, fun fs h f hf => by cases h; revert f; decide⟩) ?_
  refine TE.ok_cons Tryz.underlying39 ⟨Tryz.t39, Tryz.type39, rfl, rfl, rfl⟩ (fun _ => ⟨Tryz.stoodInHeld39, Tryz.eqGuardType39, fun fs h f hf => by cases h; revert f; decide⟩) ?_
  refine TE.ok_cons Tryz.underlying40 ⟨_, Tryz.type40, rfl, rfl, rfl⟩ nofun ?_
  refine TE.ok_cons Tryz.underlying41 ⟨_, Tryz.type41, rfl, rfl, rfl⟩ nofun ?_
  refine TE.ok_cons Tryz.underlying42 ⟨_, Tryz.type42, rfl, rfl, rfl⟩ nofun ?_
  refine TE.ok_cons Tryz.underlying43 ⟨_, Tryz.type43, rfl, rfl, rfl⟩ nofun ?_
  refine TE.ok_cons Tryz.underlying44 ⟨_, Tryz.type44, rfl, rfl, rfl⟩ nofun ?_
  refine TE.ok_cons Tryz.underlying45 ⟨_, Tryz.type45, rfl, rfl, rfl⟩ nofun ?_
  refine TE.ok_cons Tryz.underlying46 ⟨_, Tryz.type46, rfl, rfl, rfl⟩ nofun ?_
  refine TE.ok_cons Tryz.underlying47 ⟨_, Tryz.type47, rfl, rfl, rfl⟩ nofun ?_
  refine TE.ok_cons Tryz.underlying48 ⟨_, Tryz.type48, rfl, rfl, rfl⟩ nofun ?_
  refine TE.ok_cons Tryz.underlying49 ⟨_, Tryz.type49, rfl, rfl, rfl⟩ nofun ?_
  refine TE.ok_cons Tryz.underlying50 ⟨_, Tryz.type50, rfl, rfl, rfl⟩ nofun ?_
  refine TE.ok_cons Tryz.underlying51 ⟨Tryz.t51, Tryz.type51, rfl, rfl, rfl⟩ (fun _ => ⟨Tryz.stoodInHeld51, Tryz.eqGuardType51, fun fs h f hf => by cases h; revert f; decide⟩) ?_
  refine TE.ok_cons Tryz.underlying52 ⟨Tryz.t52, Tryz.type52, rfl, rfl, rfl⟩ (fun _ => ⟨Tryz.stoodInHeld52, Tryz.eqGuardType52, fun fs h f hf => by cases h; revert f; decide⟩) ?_
  refine TE.ok_cons Tryz.underlying53 ⟨Tryz.t53, Tryz.type53, rfl, rfl, rfl⟩ (fun _ => ⟨Tryz.stoodInHeld53, Tryz.eqGuardType53, fun fs h f hf => by cases h; revert f; decide⟩) ?_
  refine TE.ok_cons Tryz.underlying54 ⟨Tryz.t54, Tryz.type54, rfl, rfl, rfl⟩ (fun _ => ⟨Tryz.stoodInHeld54, Tryz.eqGuardType54, fun fs h f hf => by cases h; revert f; decide⟩) ?_
  refine TE.ok_cons Tryz.underlying55 ⟨Tryz.t55, Tryz.type55, rfl, rfl, rfl⟩ (fun _ => ⟨Tryz.stoodInHeld55, Tryz.eqGuardType55, fun fs h f hf => by cases h; revert f; decide⟩) ?_
  refine TE.ok_cons Tryz.underlying56 ⟨Tryz.t56, Tryz.type56, rfl, rfl, rfl⟩ (fun _ => ⟨Tryz.stoodInHeld56, Tryz.eqGuardType56, fun fs h f hf => by cases h; revert f; decide⟩) ?_
  refine TE.ok_cons Tryz.underlying57 ⟨_, Tryz.type57, rfl, rfl, rfl⟩ nofun ?_
  refine TE.ok_cons Tryz.underlying58 ⟨_, Tryz.type58, rfl, rfl, rfl⟩ nofun ?_
  refine TE.ok_cons Tryz.underlying59 ⟨_, Tryz.type59, rfl, rfl, rfl⟩ nofun ?_
  refine TE.ok_cons Tryz.underlying60 ⟨_, Tryz.type60, rfl, rfl, rfl⟩ nofun ?_
  refine TE.ok_cons Tryz.underlying61 ⟨_, Tryz.type61, rfl, rfl, rfl⟩ nofun ?_
  refine TE.ok_cons Tryz.underlying62 ⟨_, Tryz.type62, rfl, rfl, rfl⟩ nofun ?_
  refine TE.ok_cons Tryz.underlying63 ⟨_, Tryz.type63, rfl, rfl, rfl⟩ nofun ?_
  refine TE.ok_cons Tryz.underlying64 ⟨_, Tryz.type64, rfl, rfl, rfl⟩ nofun ?_
  refine TE.ok_cons Tryz.underlying65 ⟨_, Tryz.type65, rfl, rfl, rfl⟩ nofun ?_
  refine TE.ok_cons Tryz.underlying66 ⟨_, Tryz.type66, rfl, rfl, rfl⟩ nofun ?_
  refine TE.ok_cons Tryz.underlying67 ⟨_, Tryz.type67, rfl, rfl, rfl⟩ nofun ?_
  refine TE.ok_cons Tryz.underlying68 ⟨_, Tryz.type68, rfl, rfl, rfl⟩ nofun ?_
  refine TE.ok_cons Tryz.underlying69 ⟨_, Tryz.type69, rfl, rfl, rfl⟩ nofun ?_
  refine TE.ok_cons Tryz.underlying70 ⟨_, Tryz.type70, rfl, rfl, rfl⟩ nofun ?_
  refine TE.ok_cons Tryz.underlying71 ⟨_, Tryz.type71, rfl, rfl, rfl⟩ nofun ?_
  refine TE.ok_cons Tryz.underlying72 ⟨_, Tryz.type72, rfl, rfl, rfl⟩ nofun ?_
  refine TE.ok_cons Tryz.underlying73 ⟨_, Tryz.type73, rfl, rfl, rfl⟩ nofun ?_
  refine TE.ok_cons Tryz.underlying74 ⟨_, Tryz.type74, rfl, rfl, rfl⟩ nofun ?_
  refine TE.ok_cons Tryz.underlying75 ⟨_, Tryz.type75, rfl, rfl, rfl⟩ nofun ?_
  refine TE.ok_cons Tryz.underlying76 ⟨_, Tryz.type76, rfl, rfl, rfl⟩ nofun ?_
  refine TE.ok_cons Tryz.underlying77 ⟨_, Tryz.type77, rfl, rfl, rfl⟩ nofun ?_
  refine TE.ok_cons Tryz.underlying78 ⟨Tryz.t78, Tryz.type78, rfl, rfl, rfl⟩ (fun _ => ⟨Tryz.stoodInHeld78, Tryz.eqGuardType78, fun fs h f hf => by cases h; revert f; decide⟩) ?_
  refine TE.ok_cons Tryz.underlying79 ⟨Tryz.t79, Tryz.type79, rfl, rfl, rfl⟩ (fun _ => ⟨Tryz.stoodInHeld79, Tryz.eqGuardType79, fun fs h f hf => by cases h; revert f; decide⟩) ?_
  refine TE.ok_cons Tryz.underlying80 ⟨_, Tryz.type80, rfl, rfl, rfl⟩ nofun ?_
  refine TE.ok_cons Tryz.underlying81 ⟨_, Tryz.type81, rfl, rfl, rfl⟩ nofun ?_
  refine TE.ok_cons Tryz.underlying82 ⟨_, Tryz.type82, rfl, rfl, rfl⟩ nofun ?_
  refine TE.ok_cons Tryz.underlying83 ⟨Tryz.t83, Tryz.type83, rfl, rfl, rfl⟩ (fun _ => ⟨Tryz.stoodInHeld83, Tryz.eqGuardType83, fun fs h f hf => by cases h; revert f; decide⟩) ?_
  refine TE.ok_cons Tryz.underlying84 ⟨Tryz.t84, Tryz.type84, rfl, rfl, rfl⟩ (fun _ => ⟨Tryz.stoodInHeld84, Tryz.eqGuardType84, fun fs h f hf => by cases h; revert f; decide⟩) ?_
  refine TE.ok_cons Tryz.underlying85 ⟨_, Tryz.type85, rfl, rfl, rfl⟩ nofun ?_
  refine TE.ok_cons Tryz.underlying86 ⟨_, Tryz.type86, rfl, rfl, rfl⟩ nofun ?_
  refine TE.ok_cons Tryz.underlying87 ⟨_, Tryz.type87, rfl, rfl, rfl⟩ nofun ?_
  refine TE.ok_cons Tryz.underlying88 ⟨_, Tryz.type88, rfl, rfl, rfl⟩ nofun ?_
  refine TE.ok_cons Tryz.underlying89 ⟨_, Tryz.type89, rfl, rfl, rfl⟩ nofun ?_
  refine TE.ok_cons Tryz.underlying90 ⟨_, Tryz.type90, rfl, rfl, rfl⟩ nofun ?_
  refine TE.ok_cons Tryz.underlying91 ⟨_, Tryz.type91, rfl, rfl, rfl⟩ nofun ?_
  refine TE.ok_cons Tryz.underlying92 ⟨Tryz.t92, Tryz.type92, rfl, rfl, rfl⟩ (fun _ => ⟨Tryz.stoodInHeld92, Tryz.eqGuardType92, fun fs h f hf => by cases h; revert f; decide⟩) ?_
  refine TE.ok_cons Tryz.underlying93 ⟨Tryz.t93, Tryz.type93, rfl, rfl, rfl⟩ (fun _ => ⟨Tryz.stoodInHeld93, Tryz.eqGuardType93, fun fs h f hf => by cases h; revert f; decide⟩) ?_
  refine TE.ok_cons Tryz.underlying94 ⟨_, Tryz.type94, rfl, rfl, rfl⟩ nofun ?_
  refine TE.ok_cons Tryz.underlying95 ⟨Tryz.t95, Tryz.type95, rfl, rfl, rfl⟩ (fun _ => ⟨Tryz.stoodInHeld95, Tryz.eqGuardType95, fun fs h f hf => by cases h; revert f; decide⟩) ?_
  refine TE.ok_cons Tryz.underlying96 ⟨Tryz.t96, Tryz.type96, rfl, rfl, rfl⟩ (fun _ => ⟨Tryz.stoodInHeld96, Tryz.eqGuardType96, fun fs h f hf => by cases h; revert f; decide⟩) ?_
  refine TE.ok_cons Tryz.underlying97 ⟨_, Tryz.type97, rfl, rfl, rfl⟩ nofun ?_
  refine TE.ok_cons Tryz.underlying98 ⟨_, Tryz.type98, rfl, rfl, rfl⟩ nofun ?_
  refine TE.ok_cons Tryz.underlying99 ⟨_, Tryz.type99, rfl, rfl, rfl⟩ nofun ?_
  refine TE.ok_cons Tryz.underlying100 ⟨_, Tryz.type100, rfl, rfl, rfl⟩ nofun ?_
  refine TE.ok_cons Tryz.underlying101 ⟨_, Tryz.type101, rfl, rfl, rfl⟩ nofun ?_
  refine TE.ok_cons Tryz.underlying102 ⟨_, Tryz.type102, rfl, rfl, rfl⟩ nofun ?_
  refine TE.ok_cons Tryz.underlying103 ⟨_, Tryz.type103, rfl, rfl, rfl⟩ nofun ?_
  refine TE.ok_cons Tryz.underlying104 ⟨_, Tryz.type104, rfl, rfl, rfl⟩ nofun ?_
  refine TE.ok_cons Tryz.underlying105 ⟨_, Tryz.type105, rfl, rfl, rfl⟩ nofun ?_
  refine TE.ok_cons Tryz.underlying106 ⟨_, Tryz.type106, rfl, rfl, rfl⟩ nofun ?_
  refine TE.ok_cons Tryz.underlying107 ⟨_, Tryz.type107, rfl, rfl, rfl⟩ nofun ?_
  refine TE.ok_cons Tryz.underlying108 ⟨_, Tryz.type108, rfl, rfl, rfl⟩ nofun ?_
  refine TE.ok_cons Tryz.underlying109 ⟨_, Tryz.type109, rfl, rfl, rfl⟩ nofun ?_
  refine TE.ok_cons Tryz.underlying110 ⟨_, Tryz.type110, rfl, rfl, rfl⟩ nofun ?_
  refine TE.ok_cons Tryz.underlying111 ⟨_, Tryz.type111, rfl, rfl, rfl⟩ nofun ?_
  refine TE.ok_cons Tryz.underlying112 ⟨_, Tryz.type112, rfl, rfl, rfl⟩ nofun ?_
  refine TE.ok_cons Tryz.underlying113 ⟨_, Tryz.type113, rfl, rfl, rfl⟩ nofun ?_
  refine TE.ok_cons Tryz.underlying114 ⟨_, Tryz.type114, rfl, rfl, rfl⟩ nofun ?_
  refine TE.ok_cons Tryz.underlying115 ⟨_, Tryz.type115, rfl, rfl, rfl⟩ nofun ?_
  refine TE.ok_cons Tryz.underlying116 ⟨_, Tryz.type116, rfl, rfl, rfl⟩ nofun ?_
  refine TE.ok_cons Tryz.underlying117 ⟨_, Tryz.type117, rfl, rfl, rfl⟩ nofun ?_
  refine TE.ok_cons Tryz.underlying118 ⟨_, Tryz.type118, rfl, rfl, rfl⟩ nofun ?_
  refine TE.ok_cons Tryz.underlying119 ⟨_, Tryz.type119, rfl, rfl, rfl⟩ nofun ?_
  refine TE.ok_cons Tryz.underlying120 ⟨_, Tryz.type120, rfl, rfl, rfl⟩ nofun ?_
  refine TE.ok_cons Tryz.underlying121 ⟨Tryz.t121, Tryz.type121, rfl, rfl, rfl⟩ (fun _ => ⟨Tryz.stoodInHeld121, Tryz.eqGuardType121, fun fs h f hf => by cases h; revert f; decide⟩) ?_
  refine TE.ok_cons Tryz.underlying122 ⟨Tryz.t122, Tryz.type122, rfl, rfl, rfl⟩ (fun _ => ⟨Tryz.stoodInHeld122, Tryz.eqGuardType122, fun fs h f hf => by cases h; revert f; decide⟩) ?_
  refine TE.ok_cons Tryz.underlying123 ⟨_, Tryz.type123, rfl, rfl, rfl⟩ nofun ?_
  refine TE.ok_cons Tryz.underlying124 ⟨_, Tryz.type124, rfl, rfl, rfl⟩ nofun ?_
  refine TE.ok_cons Tryz.underlying125 ⟨_, Tryz.type125, rfl, rfl, rfl⟩ nofun ?_
  refine TE.ok_cons Tryz.underlying126 ⟨_, Tryz.type126, rfl, rfl, rfl⟩ nofun ?_
  refine TE.ok_cons Tryz.underlying127 ⟨_, Tryz.type127, rfl, rfl, rfl⟩ nofun ?_
  refine TE.ok_cons Tryz.underlying128 ⟨_, Tryz.type128, rfl, rfl, rfl⟩ nofun ?_
  refine TE.ok_cons Tryz.underlying129 ⟨_, Tryz.type129, rfl, rfl, rfl⟩ nofun ?_
  refine TE.ok_cons Tryz.underlying130 ⟨_, Tryz.type130, rfl, rfl, rfl⟩ nofun ?_
  refine TE.ok_cons Tryz.underlying131 ⟨_, Tryz.type131, rfl, rfl, rfl⟩ nofun ?_
  refine TE.ok_cons Tryz.underlying132 ⟨_, Tryz.type132, rfl, rfl, rfl⟩ nofun ?_
  refine TE.ok_cons Tryz.underlying133 ⟨_, Tryz.type133, rfl, rfl, rfl⟩ nofun ?_
  refine TE.ok_cons Tryz.underlying134 ⟨_, Tryz.type134, rfl, rfl, rfl⟩ nofun ?_
  refine TE.ok_cons Tryz.underlying135 ⟨_, Tryz.type135, rfl, rfl, rfl⟩ nofun ?_
  refine TE.ok_cons Tryz.underlying136 ⟨_, Tryz.type136, rfl, rfl, rfl⟩ nofun ?_
  refine TE.ok_cons Tryz.underlying137 ⟨_, Tryz.type137, rfl, rfl, rfl⟩ nofun ?_
  refine TE.ok_cons Tryz.underlying138 ⟨_, Tryz.type138, rfl, rfl, rfl⟩ nofun ?_
  refine TE.ok_cons Tryz.underlying139 ⟨_, Tryz.type139, rfl, rfl, rfl⟩ nofun ?_
  refine TE.ok_cons Tryz.underlying140 ⟨_, Tryz.type140, rfl, rfl, rfl⟩ nofun ?_
  refine TE.ok_cons Tryz.underlying141 ⟨_, Tryz.type141, rfl, rfl, rfl⟩ nofun ?_
  refine TE.ok_cons Tryz.underlying142 ⟨_, Tryz.type142, rfl, rfl, rfl⟩ nofun ?_
  refine TE.ok_cons Tryz.underlying143 ⟨_, Tryz.type143, rfl, rfl, rfl⟩ nofun ?_
  refine TE.ok_cons Tryz.underlying144 ⟨_, Tryz.type144, rfl, rfl, rfl⟩ nofun ?_
  refine TE.ok_cons Tryz.underlying145 ⟨_, Tryz.type145, rfl, rfl, rfl⟩ nofun ?_
  refine TE.ok_cons Tryz.underlying146 ⟨_, Tryz.type146, rfl, rfl, rfl⟩ nofun ?_
  refine TE.ok_cons Tryz.underlying147 ⟨_, Tryz.type147, rfl, rfl, rfl⟩ nofun ?_
  refine TE.ok_cons Tryz.underlying148 ⟨_, Tryz.type148, rfl, rfl, rfl⟩ nofun ?_
  refine TE.ok_cons Tryz.underlying149 ⟨_, Tryz.type149, rfl, rfl, rfl⟩ nofun ?_
  refine TE.ok_cons Tryz.underlying150 ⟨_, Tryz.type150, rfl, rfl, rfl⟩ nofun ?_
  refine TE.ok_cons Tryz.underlying151 ⟨_, Tryz.type151, rfl, rfl, rfl⟩ nofun ?_
  refine TE.ok_cons Tryz.underlying152 ⟨_, Tryz.type152, rfl, rfl, rfl⟩ nofun ?_
  refine TE.ok_cons Tryz.underlying153 ⟨_, Tryz.type153, rfl, rfl, rfl⟩ nofun ?_
  refine TE.ok_cons Tryz.underlying154 ⟨_, Tryz.type154, rfl, rfl, rfl⟩ nofun ?_
  refine TE.ok_cons Tryz.underlying155 ⟨_, Tryz.type155, rfl, rfl, rfl⟩ nofun ?_
  refine TE.ok_cons Tryz.underlying156 ⟨_, Tryz.type156, rfl, rfl, rfl⟩ nofun ?_
  refine TE.ok_cons Tryz.underlying157 ⟨_, Tryz.type157, rfl, rfl, rfl⟩ nofun ?_
  refine TE.ok_cons Tryz.underlying158 ⟨_, Tryz.type158, rfl, rfl, rfl⟩ nofun ?_
  refine TE.ok_cons Tryz.underlying159 ⟨_, Tryz.type159, rfl, rfl, rfl⟩ nofun ?_
  refine TE.ok_cons Tryz.underlying160 ⟨_, Tryz.type160, rfl, rfl, rfl⟩ nofun ?_
  refine TE.ok_cons Tryz.underlying161 ⟨_, Tryz.type161, rfl, rfl, rfl⟩ nofun ?_
  refine TE.ok_cons Tryz.underlying162 ⟨_, Tryz.type162, rfl, rfl, rfl⟩ nofun ?_
  refine TE.ok_cons Tryz.underlying163 ⟨_, Tryz.type163, rfl, rfl, rfl⟩ nofun ?_
  refine TE.ok_cons Tryz.underlying164 ⟨_, Tryz.type164, rfl, rfl, rfl⟩ nofun ?_
  refine TE.ok_cons Tryz.underlying165 ⟨_, Tryz.type165, rfl, rfl, rfl⟩ nofun ?_
  refine TE.ok_cons Tryz.underlying166 ⟨_, Tryz.type166, rfl, rfl, rfl⟩ nofun ?_
  refine TE.ok_cons Tryz.underlying167 ⟨_, Tryz.type167, rfl, rfl, rfl⟩ nofun ?_
  refine TE.ok_cons Tryz.underlying168 ⟨_, Tryz.type168, rfl, rfl, rfl⟩ nofun ?_
  refine TE.ok_cons Tryz.underlying169 ⟨_, Tryz.type169, rfl, rfl, rfl⟩ nofun ?_
  refine TE.ok_cons Tryz.underlying170 ⟨_, Tryz.type170, rfl, rfl, rfl⟩ nofun ?_
  refine TE.ok_cons Tryz.underlying171 ⟨_, Tryz.type171, rfl, rfl, rfl⟩ nofun ?_
  refine TE.ok_cons Tryz.underlying172 ⟨_, Tryz.type172, rfl, rfl, rfl⟩ nofun ?_
  refine TE.ok_cons Tryz.underlying176 ⟨_, Tryz.type176, rfl, rfl, rfl⟩ nofun ?_
  refine TE.ok_cons Tryz.underlying177 ⟨_, Tryz.type177, rfl, rfl, rfl⟩ nofun ?_
  refine TE.ok_cons Tryz.underlying178 ⟨_, Tryz.type178, rfl, rfl, rfl⟩ nofun ?_
  refine TE.ok_cons Tryz.underlying179 ⟨_, Tryz.type179, rfl, rfl, rfl⟩ nofun ?_
  refine TE.ok_cons Tryz.underlying180 ⟨_, Tryz.type180, rfl, rfl, rfl⟩ nofun ?_
  refine TE.ok_cons Tryz.underlying181 ⟨_, Tryz.type181, rfl, rfl, rfl⟩ nofun ?_
  refine TE.ok_cons Tryz.underlying182 ⟨_, Tryz.type182, rfl, rfl, rfl⟩ nofun ?_
  refine TE.ok_cons Tryz.underlying183 ⟨_, Tryz.type183, rfl, rfl, rfl⟩ nofun ?_
  refine TE.ok_cons Tryz.underlying184 ⟨_, Tryz.type184, rfl, rfl, rfl⟩ nofun ?_
  refine TE.ok_cons Tryz.underlying185 ⟨_, Tryz.type185, rfl, rfl, rfl⟩ nofun ?_
  refine TE.ok_cons Tryz.underlying186 ⟨_, Tryz.type186, rfl, rfl, rfl⟩ nofun ?_
  refine TE.ok_cons Tryz.underlying187 ⟨_, Tryz.type187, rfl, rfl, rfl⟩ nofun ?_
  refine TE.ok_cons Tryz.underlying188 ⟨_, Tryz.type188, rfl, rfl, rfl⟩ nofun ?_
  refine TE.ok_cons Tryz.underlying189 ⟨_, Tryz.type189, rfl, rfl, rfl⟩ nofun ?_
  refine TE.ok_cons Tryz.underlying190 ⟨_, Tryz.type190, rfl, rfl, rfl⟩ nofun ?_
  refine TE.ok_cons Tryz.underlying191 ⟨_, Tryz.type191, rfl, rfl, rfl⟩ nofun ?_
  refine TE.ok_cons Tryz.underlying192 ⟨_, Tryz.type192, rfl, rfl, rfl⟩ nofun ?_
  refine TE.ok_cons Tryz.underlying193 ⟨_, Tryz.type193, rfl, rfl, rfl⟩ nofun ?_
  refine TE.ok_cons Tryz.underlying194 ⟨_, Tryz.type194, rfl, rfl, rfl⟩ nofun ?_
  refine TE.ok_cons Tryz.underlying195 ⟨_, Tryz.type195, rfl, rfl, rfl⟩ nofun ?_
  refine TE.ok_cons Tryz.underlying196 ⟨_, Tryz.type196, rfl, rfl, rfl⟩ nofun ?_
  refine TE.ok_cons Tryz.underlying197 ⟨_, Tryz.type197, rfl, rfl, rfl⟩ nofun ?_
  refine TE.ok_cons Tryz.underlying198 ⟨_, Tryz.type198, rfl, rfl, rfl⟩ nofun ?_
  refine TE.ok_cons Tryz.underlying199 ⟨_, Tryz.type199, rfl, rfl, rfl⟩ nofun ?_
  refine TE.ok_cons Tryz.underlying200 ⟨_, Tryz.type200, rfl, rfl, rfl⟩ nofun ?_
  refine TE.ok_cons Tryz.underlying201 ⟨_, Tryz.type201, rfl, rfl, rfl⟩ nofun ?_
  refine TE.ok_cons Tryz.underlying202 ⟨_, Tryz.type202, rfl, rfl, rfl⟩ nofun ?_
  refine TE.ok_cons Tryz.underlying203 ⟨_, Tryz.type203, rfl, rfl, rfl⟩ nofun ?_
  refine TE.ok_cons Tryz.underlying205 ⟨Tryz.t205, Tryz.type205, rfl, rfl, rfl⟩ (fun _ => ⟨Tryz.stoodInHeld205, Tryz.eqGuardType205, fun fs h f hf => by cases h; revert f; decide⟩) ?_
  refine TE.ok_cons Tryz.underlying206 ⟨Tryz.t206, Tryz.type206, rfl, rfl, rfl⟩ (fun _ => ⟨Tryz.stoodInHeld206, Tryz.eqGuardType206, fun fs h f hf => by cases h; revert f; decide⟩) ?_
  refine TE.ok_cons Tryz.underlying207 ⟨_, Tryz.type207, rfl, rfl, rfl⟩ nofun ?_
  refine TE.ok_cons Tryz.underlying208 ⟨_, Tryz.type208, rfl, rfl, rfl⟩ nofun ?_
  refine TE.ok_cons Tryz.underlying209 ⟨_, Tryz.type209, rfl, rfl, rfl⟩ nofun ?_
  refine TE.ok_cons Tryz.underlying210 ⟨_, Tryz.type210, rfl, rfl, rfl⟩ nofun ?_
  refine TE.ok_cons Tryz.underlying211 ⟨_, Tryz.type211, rfl, rfl, rfl⟩ nofun ?_
  refine TE.ok_cons Tryz.underlying212 ⟨_, Tryz.type212, rfl, rfl, rfl⟩ nofun ?_
  refine TE.ok_cons Tryz.underlying213 ⟨_, Tryz.type213, rfl, rfl, rfl⟩ nofun ?_
  refine TE.ok_cons Tryz.underlying214 ⟨_, Tryz.type214, rfl, rfl, rfl⟩ nofun ?_
  refine TE.ok_cons Tryz.underlying215 ⟨_, Tryz.type215, rfl, rfl, rfl⟩ nofun ?_
  refine TE.ok_cons Tryz.underlying216 ⟨_, Tryz.type216, rfl, rfl, rfl⟩ nofun ?_
  refine TE.ok_cons Tryz.underlying217 ⟨_, Tryz.type217, rfl, rfl, rfl⟩ nofun ?_
  refine TE.ok_cons Tryz.underlying218 ⟨Tryz.t218, Tryz.type218, rfl, rfl, rfl⟩ (fun _ => ⟨Tryz.stoodInHeld218, Tryz.eqGuardType218, fun fs h f hf => by cases h; revert f; decide⟩) ?_
  refine TE.ok_cons Tryz.underlying219 ⟨Tryz.t219, Tryz.type219, rfl, rfl, rfl⟩ (fun _ => ⟨Tryz.stoodInHeld219, Tryz.eqGuardType219, fun fs h f hf => by cases h; revert f; decide⟩) ?_
  refine TE.ok_cons Tryz.underlying220 ⟨_, Tryz.type220, rfl, rfl, rfl⟩ nofun ?_
  refine TE.ok_cons Tryz.underlying221 ⟨_, Tryz.type221, rfl, rfl, rfl⟩ nofun ?_
  refine TE.ok_cons Tryz.underlying222 ⟨_, Tryz.type222, rfl, rfl, rfl⟩ nofun ?_
  refine TE.ok_cons Tryz.underlying223 ⟨_, Tryz.type223, rfl, rfl, rfl⟩ nofun ?_
  refine TE.ok_cons Tryz.underlying224 ⟨_, Tryz.type224, rfl, rfl, rfl⟩ nofun ?_
  refine TE.ok_cons Tryz.underlying225 ⟨_, Tryz.type225, rfl, rfl, rfl⟩ nofun ?_
  refine TE.ok_cons Tryz.underlying226 ⟨_, Tryz.type226, rfl, rfl, rfl⟩ nofun ?_
  refine TE.ok_cons Tryz.underlying227 ⟨_, Tryz.type227, rfl, rfl, rfl⟩ nofun ?_
  refine TE.ok_cons Tryz.underlying228 ⟨_, Tryz.type228, rfl, rfl, rfl⟩ nofun ?_
  refine TE.ok_cons Tryz.underlying229 ⟨_, Tryz.type229, rfl, rfl, rfl⟩ nofun ?_
  refine TE.ok_cons Tryz.underlying230 ⟨_, Tryz.type230, rfl, rfl, rfl⟩ nofun ?_
  refine TE.ok_cons Tryz.underlying231 ⟨_, Tryz.type231, rfl, rfl, rfl⟩ nofun ?_
  refine TE.ok_cons Tryz.underlying232 ⟨_, Tryz.type232, rfl, rfl, rfl⟩ nofun ?_
  refine TE.ok_cons Tryz.underlying233 ⟨_, Tryz.type233, rfl, rfl, rfl⟩ nofun ?_
  refine TE.ok_cons Tryz.underlying234 ⟨_, Tryz.type234, rfl, rfl, rfl⟩ nofun ?_
  refine TE.ok_cons Tryz.underlying235 ⟨_, Tryz.type235, rfl, rfl, rfl⟩ nofun ?_
  refine TE.ok_cons Tryz.underlying236 ⟨_, Tryz.type236, rfl, rfl, rfl⟩ nofun ?_
  refine TE.ok_cons Tryz.underlying237 ⟨_, Tryz.type237, rfl, rfl, rfl⟩ nofun ?_
  refine TE.ok_cons Tryz.underlying238 ⟨_, Tryz.type238, rfl, rfl, rfl⟩ nofun ?_
  refine TE.ok_cons Tryz.underlying239 ⟨_, Tryz.type239, rfl, rfl, rfl⟩ nofun ?_
  refine TE.ok_cons Tryz.underlying240 ⟨_, Tryz.type240, rfl, rfl, rfl⟩ nofun ?_
  refine TE.ok_cons Tryz.underlying241 ⟨_, Tryz.type241, rfl, rfl, rfl⟩ nofun ?_
  refine TE.ok_cons Tryz.underlying242 ⟨_, Tryz.type242, rfl, rfl, rfl⟩ nofun ?_
  refine TE.ok_cons Tryz.underlying243 ⟨_, Tryz.type243, rfl, rfl, rfl⟩ nofun ?_
  refine TE.ok_cons Tryz.underlying244 ⟨_, Tryz.type244, rfl, rfl, rfl⟩ nofun ?_
  exact TE.ok_nil
set_option maxRecDepth 100000 in
theorem te_one : ∀ t ti, lk te t = some ti → isAggD ti.desc = false → ti.sz = 1 := TE.one_of (by rfl)
end Go.Eng
namespace Go.Eng
open Go.Proofs
theorem prg {C : Ctx} (hP : C.P = Tryz.prog) : Prg C te := ⟨hP ▸ te_ok, te_one⟩
end Go.Eng
namespace Go.Eng
open Go.Proofs Go.RowKit
variable {H : Type} {enc : TypeId × Value → H}
theorem handed_and_shaped {a : Assume} {C : Checked} {os : Os} {f : FuncId} {fn : Func} {s : ChangeSpec} {conds : List PathCond} {apart fresh handsOn again : Bool} {X : World → Array Value → Prop}
    (hX : ∀ (w w' : World) (args : Array Value), w.heap = w'.heap → X w args → X w' args)
    (own : ownKnob C.prog.godebug = none) (started : os.Started) (noInit : C.prog.inits.idxOf? f = none) (hfn : C.prog.funcs[f]? = some fn)
    (witness : ∃ (w : World) (tape : Tape) (i : Input), w.os = os ∧ (w.forCall tape i).Shaped C.prog ∧ i.vars = [] ∧ Input.okWide C.prog (w.forCall tape i) .any w.heap.size f i ∧
      ((s.pre enc C.prog fn conds apart (w.forCall tape i).memory i.args ∧ X (w.forCall tape i).memory i.args) ∧ sizedMet enc C.prog fn (OpenSpec.ofChange s) apart (w.forCall tape i).memory i.args) ∧ a.holds C.prog (lone (Frame.enter C.prog f i.args .normal) [] (w.forCall tape i)))
    (contract : ∀ (W : World) (base : Nat) (args : Array Value) (ds gs : List (DataW H)) (before : List MemPlace),
      (∀ (j : Nat) t v, fn.params[j]? = some t → args[j]? = some v → Value.okWide C.prog W .any base t v) →
      DataW.Whole enc C.prog fn.params.toList s.vars apart W args.toList ds gs before → X W args → W.ShapedOpen C.prog →
      Calls C.prog f args W fun e W' => ∃ v, e = .returned v ∧ s.post enc C.prog fn apart fresh handsOn again W args v W') :
    ReturnsInHanded a C os f .any (fun w args => (s.pre enc C.prog fn conds apart w args ∧ X w args) ∧ sizedMet enc C.prog fn (OpenSpec.ofChange s) apart w args) (s.post enc C.prog fn apart fresh handsOn again) := by
  refine returnsInHanded_of_calls own started noInit witness ?_
  intro w tape i _ hsh _ hok hpre _
  obtain ⟨_, _, _, fn', hfn', _, _, _, _, hval⟩ := hok
  have e : fn' = fn := Option.some.inj (hfn'.symm.trans hfn)
  subst e
  obtain ⟨⟨⟨ds, gs, before, hw, _⟩, hx⟩, _⟩ := hpre
  have hw' := DataW.Whole.of_heap (w' := w.forCall tape i) (by rfl) hw
  have hx' := hX _ (w.forCall tape i) i.args (by rfl) hx
  refine (contract (w.forCall tape i) w.heap.size i.args ds gs before hval hw' hx' hsh).mono fun e W' ⟨v, he, hp⟩ => ?_
  subst he
  exact ChangeSpec.post_blind hp
theorem ADet.top {C : Ctx} {f : FuncId} {args : List AV} {b : Bool} (h : ADet C f args [] (.bool b) []) {w : World} (hl : C.laid w) (hg : C.gsz ≤ w.heap.size) {cargs : List Value} (hlen : cargs.length = args.length)
    (hV : ∀ (j : Nat) v u, cargs[j]? = some v → args[j]? = some u → V w (fun _ => False) nob v u) : Calls C.P f cargs.toArray w fun e w' => e = .returned (.bool b) ∧ Below w.heap.size w w' := by
  have no : ∀ r, lkL [] r = none := fun r => by cases r <;> rfl
  have nm : ∀ b', ¬ mutB (lkL []) nob b' := by
    rintro b' ⟨r, o, c, ho, _⟩
    rw [no r] at ho; cases ho
  have hw : WRep C ⟨w, 0, nob, fun _ => False, fun _ => False⟩ (lkL []) nob w := {
    obj := fun r o ho => by rw [no r] at ho; cases ho
    sep := fun r r' o o' b c c' ho => by rw [no r] at ho; cases ho
    out := fun b hb => absurd hb (nm b)
    frz := fun r t sz n f b c ho => by rw [no r] at ho; cases ho
    high := fun b hb => by
      rcases hb with hb | hb
      · exact hb.elim
      · exact absurd hb (nm b)
    lt := fun r b c hb => by simp [nob] at hb
    outlt := fun b hb => hb.elim
    keep := fun b _ _ => rfl
    old := fun b hb => absurd hb (nm b)
    size := Nat.le_refl _
    pre := fun r x hr => absurd hr (Nat.not_lt_zero r)
    os := rfl
    tape := .refl _ _
    output := rfl
    laid := hl
    gle := hg }
  refine (h.2 ⟨w, 0, nob, fun _ => False, fun _ => False⟩ nob w cargs rfl rfl rfl hw (fun _ _ => rfl) hlen (fun j v u hv hu => (hV j v u hv hu).step_ (fun b _ _ hb => ?_) (fun _ _ _ => rfl) (Nat.le_refl _) nob (fun _ _ h => h))).mono ?_
  · rcases hb with hb | hb
    · exact hb
    · exact nm b hb
  · rintro e w' ⟨v, u, O', bs', rfl, ⟨rfl, rfl⟩, hw', hV', _⟩
    cases hV'
    exact ⟨rfl, hw'.os, hw'.tape.tape, hw'.output, hw'.size, fun i hi => hw'.keep i hi (fun h => h)⟩
theorem V_view {W : World} {A : Option Addr} {n c sz : Nat} (g : Nat → List AV) (hn : n ≤ c) (hc : c ≤ maxLen) (hl : ∀ i, i < n → (g i).length = sz)
    (h : n = 0 ∨ ∃ ad, A = some ad ∧ ad.block < W.heap.size ∧ ∀ i, i < n → ∀ j, j < sz → ∃ v, W.cell? (ad.add (i * sz + j)) = some v ∧ v.oneCell' = true ∧ ∀ u, (g i)[j]? = some u → V W (fun _ => False) nob v u) : V W (fun _ => False) nob (.slice A n c) (.view sz n g) := by
  rcases h with rfl | ⟨ad, rfl, hb, h⟩
  · exact .view ⟨0, 0, none⟩ (fun _ _ => default) hn hc (fun h => absurd h (by omega)) hl (fun i hi => by omega) (fun i hi => by omega) (fun i hi => by omega)
  · have hj : ∀ i, i < n → ∀ j u, (g i)[j]? = some u → j < sz := fun i hi j u hu => by
      have := (List.getElem?_eq_some_iff.1 hu).1
      rw [hl i hi] at this; exact this
    refine .view ad (fun i j => (W.cell? (ad.add (i * sz + j))).getD default) hn hc (fun _ => ⟨rfl, fun h => h, hb⟩) hl (fun i hi j hj => ?_) (fun i hi j hj => ?_) (fun i hi j u hu => ?_)
    · obtain ⟨v, h1, _⟩ := h i hi j hj
      rw [h1]; rfl
    · obtain ⟨v, h1, h2, _⟩ := h i hi j hj
      rw [h1]; exact h2
    · obtain ⟨v, h1, _, h3⟩ := h i hi j (hj i hi j u hu)
      rw [h1]; exact h3 u hu
end Go.Eng
namespace Go.Eng
def dropR (p : UInt8 → Bool) (s : List UInt8) : List UInt8 := (s.reverse.dropWhile p).reverse
def trimF (c s : List UInt8) : List UInt8 := (dropR (c.contains ·) s).dropWhile (c.contains ·)
def S_trim : Spec
  | [.str s, .str c], [] => some (.str (trimF c s), [], s.length ≤ maxLen ∧ 2 ≤ c.length ∧ c.length < 4294967281 ∧ ∀ b ∈ c, b.toNat < 128)
  | _, _ => none
theorem dropR_snoc (p : UInt8 → Bool) (r : List UInt8) (x : UInt8) : dropR p (r ++ [x]) = if p x then dropR p r else r ++ [x] := by
  unfold dropR
  simp only [List.reverse_append, List.reverse_cons, List.reverse_nil, List.nil_append, List.cons_append, List.dropWhile_cons]
  split <;> simp
theorem snoc_cases {α : Type} (l : List α) : l = [] ∨ ∃ r x, l = r ++ [x] := by
  rcases List.eq_nil_or_concat l with h | ⟨r, x, h⟩
  · exact .inl h
  · exact .inr ⟨r, x, by rw [h]; simp⟩
def inSet (cells : List AV) (x : UInt8) : Bool := boolOf (cells.getD x.toNat .any)
def SetOK (cells : List AV) : Prop := cells.length = 256 ∧ ∀ u ∈ cells, ∃ b, u = .bool b
theorem SetOK.at_ {cells : List AV} (h : SetOK cells) (x : UInt8) : cells[x.toNat]? = some (.bool (inSet cells x)) := by
  have hlt : x.toNat < cells.length := by rw [h.1]; exact x.toNat_lt
  obtain ⟨b, hb⟩ := h.2 cells[x.toNat] (List.getElem_mem hlt)
  have : inSet cells x = b := by simp [inSet, hlt, hb, boolOf]
  rw [this, List.getElem?_eq_getElem hlt, hb]
theorem SetOK.rn {cells : List AV} (h : SetOK cells) (ρ : Nat → Option Nat) : AV.rnL ρ cells = cells := by
  have key : ∀ l : List AV, (∀ u ∈ l, ∃ b, u = .bool b) → AV.rnL ρ l = l := by
    intro l
    induction l with
    | nil => intro _; rfl
    | cons u l ih =>
      intro hl
      obtain ⟨b, rfl⟩ := hl u (by simp)
      simp only [AV.rnL, AV.rn, ih fun u hu => hl u (List.mem_cons_of_mem _ hu)]
  exact key cells h.2
@[irreducible] def setAV (cs : List UInt8) : List AV := (List.range 256).map fun i => .bool (cs.contains (UInt8.ofNat i))
theorem setAV_ok (cs : List UInt8) : SetOK (setAV cs) := ⟨by unfold setAV; simp, fun u hu => by
  unfold setAV at hu
  obtain ⟨i, _, rfl⟩ := List.mem_map.1 hu
  exact ⟨_, rfl⟩⟩
theorem inSet_setAV (cs : List UInt8) (x : UInt8) : inSet (setAV cs) x = cs.contains x := by
  have : x.toNat < 256 := x.toNat_lt
  unfold inSet setAV; simp [List.getD, this, boolOf]
def S_setContains : Spec
  | [.ptr 0 0, .int .u8 x], [.cells cells t] => some (.bool (inSet cells (UInt8.ofNat x.toNat)), [(0, .cells cells t)], SetOK cells ∧ 0 ≤ x ∧ x < 256)
  | _, _ => none
def S_trimLeftA : Spec
  | [.str s, .ptr 0 0], [.cells cells 174] => some (.str (s.dropWhile (inSet cells)), [(0, .cells cells 174)], SetOK cells)
  | _, _ => none
def S_trimRightA : Spec
  | [.str s, .ptr 0 0], [.cells cells 174] => some (.str (dropR (inSet cells) s), [(0, .cells cells 174)], SetOK cells ∧ s.length ≤ maxLen)
  | _, _ => none
def S_tlState (cells : List AV) (t : Nat) (s : List UInt8) : St := ⟨[(0, .str s), (1, .ptr 0 0)], [(0, .cells cells t)], 1, []⟩
def L_trimLeftA (s : List UInt8) (cells : List AV) (t : Nat) : LSpec := fun st Q => canonIs te 1 [0, 1] st (S_tlState cells t s) ∧ SetOK cells ∧ Q (.exit 0) ⟨[(0, .str (s.dropWhile (inSet cells)))], [(0, .cells cells t)], 1, []⟩
def L_trimRightA (s : List UInt8) (cells : List AV) (t : Nat) : LSpec := fun st Q => canonIs te 1 [0, 1] st (S_tlState cells t s) ∧ SetOK cells ∧ s.length ≤ maxLen ∧ Q (.exit 0) ⟨[(0, .str (dropR (inSet cells) s))], [(0, .cells cells t)], 1, []⟩
def S_makeSet : Spec
  | [.str l], [] => some (.tuple [.agg (setAV l), .bool true], [], l.length < 4294967281 ∧ ∀ b ∈ l, b.toNat < 128)
  | _, _ => none
def L_trimSet (s cs : List UInt8) : LSpec := fun st Q => canonIs te 0 [0, 1] st ⟨[(0, .str s), (1, .str cs)], [], 0, []⟩ ∧ cs.length < 4294967281 ∧ (∀ b ∈ cs, b.toNat < 128) ∧
  Q .normal ⟨[(0, .str s), (5, .ptr 0 0), (6, .bool true)], [(0, .cells (setAV cs) 174)], 1, []⟩
end Go.Eng
