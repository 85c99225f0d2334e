/- Orders told by numbers (below, equal, above), and lists that ascend strictly. -/
import Derived.Test.YtokpcnppihgdlaaGreatDoorEe
import Derived.Test.YtokpcnppihgdlaaGreatDoorProg
import Derived.Test.YtokpcnppihgdlaaGreatDoorEl
import Derived.KernelRfl
namespace Go.Eng
open Go.Proofs
def te : TE := [
  (0, ⟨.tuple #[], 1, 0, .tuple #[], false⟩),
  (1, ⟨.func #[] #[] false, 1, 8, .nilFunc, false⟩),
  (2, ⟨.int .i64, 1, 8, .int .i64 0, false⟩),
  (3, ⟨.int .i64, 1, 8, .int .i64 0, false⟩),
  (4, ⟨.bool, 1, 1, .bool false, false⟩),
  (5, ⟨.int .u8, 1, 1, .int .u8 0, false⟩),
  (6, ⟨.int .u8, 1, 1, .int .u8 0, false⟩),
  (7, ⟨.struct #[⟨ "x", 2, 0, false, "", "runtime", 0⟩, ⟨ "y", 3, 1, false, "", "runtime", 8⟩, ⟨ "signed", 4, 2, false, "", "runtime", 16⟩, ⟨ "code", 6, 3, false, "", "runtime", 17⟩], 4, 24, .agg #[.int .i64 0, .int .i64 0, .bool false, .int .u8 0], true⟩),
  (8, ⟨.struct #[⟨ "x", 2, 0, false, "", "runtime", 0⟩, ⟨ "y", 3, 1, false, "", "runtime", 8⟩, ⟨ "signed", 4, 2, false, "", "runtime", 16⟩, ⟨ "code", 6, 3, false, "", "runtime", 17⟩], 4, 24, .agg #[.int .i64 0, .int .i64 0, .bool false, .int .u8 0], true⟩),
  (9, ⟨.string, 1, 16, .string { data := #[] }, false⟩),
  (10, ⟨.string, 1, 16, .string { data := #[] }, false⟩),
  (11, ⟨.string, 1, 16, .string { data := #[] }, false⟩),
  (12, ⟨.int .u64, 1, 8, .int .u64 0, false⟩),
  (13, ⟨.struct #[⟨ "msg", 9, 0, false, "", "runtime", 0⟩, ⟨ "addr", 12, 1, false, "", "runtime", 16⟩], 2, 24, .agg #[.string { data := #[] }, .int .u64 0], false⟩),
  (14, ⟨.struct #[⟨ "msg", 9, 0, false, "", "runtime", 0⟩, ⟨ "addr", 12, 1, false, "", "runtime", 16⟩], 2, 24, .agg #[.string { data := #[] }, .int .u64 0], false⟩),
  (15, ⟨.pointer 232, 1, 8, .pointer none, false⟩),
  (16, ⟨.pointer 235, 1, 8, .pointer none, false⟩),
  (17, ⟨.pointer 243, 1, 8, .pointer none, false⟩),
  (18, ⟨.struct #[⟨ "typ", 17, 0, false, "", "internal/runtime/maps", 0⟩], 1, 8, .agg #[.pointer none], false⟩),
  (19, ⟨.struct #[⟨ "typ", 17, 0, false, "", "internal/runtime/maps", 0⟩], 1, 8, .agg #[.pointer none], false⟩),
  (20, ⟨.interface #[], 1, 16, .nilIface, false⟩),
  (21, ⟨.int .i32, 1, 4, .int .i32 0, false⟩),
  (22, ⟨.slice 39, 1, 24, .slice none 0 0, false⟩),
  (23, ⟨.slice 3, 1, 24, .slice none 0 0, false⟩),
  (24, ⟨.func #[22] #[22] false, 1, 8, .nilFunc, false⟩),
  (25, ⟨.func #[26] #[22] false, 1, 8, .nilFunc, false⟩),
  (26, ⟨.pointer 28, 1, 8, .pointer none, false⟩),
  (27, ⟨.struct #[⟨ "L", 23, 0, false, "", "", 0⟩, ⟨ "At", 3, 1, false, "", "", 24⟩], 2, 32, .agg #[.slice none 0 0, .int .i64 0], true⟩),
  (28, ⟨.struct #[⟨ "L", 23, 0, false, "", "", 0⟩, ⟨ "At", 3, 1, false, "", "", 24⟩], 2, 32, .agg #[.slice none 0 0, .int .i64 0], true⟩),
  (29, ⟨.slice 22, 1, 24, .slice none 0 0, false⟩),
  (30, ⟨.int .i64, 1, 8, .int .i64 0, false⟩),
  (31, ⟨.tuple #[22, 30], 1, 0, .tuple #[.slice none 0 0, .int .i64 0], false⟩),
  (32, ⟨.func #[22] #[22, 30] false, 1, 8, .nilFunc, false⟩),
  (33, ⟨.func #[22] #[30] false, 1, 8, .nilFunc, false⟩),
  (34, ⟨.func #[22, 22] #[4] false, 1, 8, .nilFunc, false⟩),
  (35, ⟨.func #[] #[4] false, 1, 8, .nilFunc, false⟩),
  (36, ⟨.func #[22, 23] #[4] false, 1, 8, .nilFunc, false⟩),
  (37, ⟨.func #[3, 3] #[3] false, 1, 8, .nilFunc, false⟩),
  (38, ⟨.struct #[⟨ "Outlet", 9, 0, false, "", "", 0⟩, ⟨ "Product", 9, 1, false, "", "", 16⟩, ⟨ "Period", 3, 2, false, "", "", 32⟩, ⟨ "Units", 2, 3, false, "", "", 40⟩, ⟨ "Turnover", 2, 4, false, "", "", 48⟩], 5, 56, .agg #[.string { data := #[] }, .string { data := #[] }, .int .i64 0, .int .i64 0, .int .i64 0], true⟩),
  (39, ⟨.struct #[⟨ "Outlet", 9, 0, false, "", "", 0⟩, ⟨ "Product", 9, 1, false, "", "", 16⟩, ⟨ "Period", 3, 2, false, "", "", 32⟩, ⟨ "Units", 2, 3, false, "", "", 40⟩, ⟨ "Turnover", 2, 4, false, "", "", 48⟩], 5, 56, .agg #[.string { data := #[] }, .string { data := #[] }, .int .i64 0, .int .i64 0, .int .i64 0], true⟩),
  (40, ⟨.func #[] #[39] false, 1, 8, .nilFunc, false⟩),
  (41, ⟨.func #[3] #[4] false, 1, 8, .nilFunc, false⟩),
  (42, ⟨.func #[3] #[22] false, 1, 8, .nilFunc, false⟩),
  (43, ⟨.func #[23] #[4] false, 1, 8, .nilFunc, false⟩),
  (44, ⟨.slice 96, 1, 24, .slice none 0 0, false⟩),
  (45, ⟨.func #[3, 3] #[44] false, 1, 8, .nilFunc, false⟩),
  (46, ⟨.func #[3] #[3] false, 1, 8, .nilFunc, false⟩),
  (47, ⟨.tuple #[2, 2], 1, 0, .tuple #[.int .i64 0, .int .i64 0], false⟩),
  (48, ⟨.func #[22, 44, 3] #[2, 2] false, 1, 8, .nilFunc, false⟩),
  (49, ⟨.func #[22, 3] #[2] false, 1, 8, .nilFunc, false⟩),
  (50, ⟨.func #[22, 3, 23] #[4] false, 1, 8, .nilFunc, false⟩),
  (51, ⟨.struct #[⟨ "Outlet", 9, 0, false, "", "", 0⟩, ⟨ "Product", 9, 1, false, "", "", 16⟩, ⟨ "Period", 3, 2, false, "", "", 32⟩, ⟨ "Day", 3, 3, false, "", "", 40⟩, ⟨ "Status", 3, 4, false, "", "", 48⟩, ⟨ "Price", 2, 5, false, "", "", 56⟩, ⟨ "Replacement", 9, 6, false, "", "", 64⟩], 7, 80, .agg #[.string { data := #[] }, .string { data := #[] }, .int .i64 0, .int .i64 0, .int .i64 0, .int .i64 0, .string { data := #[] }], true⟩),
  (52, ⟨.struct #[⟨ "Outlet", 9, 0, false, "", "", 0⟩, ⟨ "Product", 9, 1, false, "", "", 16⟩, ⟨ "Period", 3, 2, false, "", "", 32⟩, ⟨ "Day", 3, 3, false, "", "", 40⟩, ⟨ "Status", 3, 4, false, "", "", 48⟩, ⟨ "Price", 2, 5, false, "", "", 56⟩, ⟨ "Replacement", 9, 6, false, "", "", 64⟩], 7, 80, .agg #[.string { data := #[] }, .string { data := #[] }, .int .i64 0, .int .i64 0, .int .i64 0, .int .i64 0, .string { data := #[] }], true⟩),
  (53, ⟨.struct #[⟨ "Outlet", 9, 0, false, "", "", 0⟩, ⟨ "Product", 9, 1, false, "", "", 16⟩, ⟨ "Period", 3, 2, false, "", "", 32⟩, ⟨ "Device", 9, 3, false, "", "", 40⟩, ⟨ "Number", 3, 4, false, "", "", 56⟩], 5, 64, .agg #[.string { data := #[] }, .string { data := #[] }, .int .i64 0, .string { data := #[] }, .int .i64 0], true⟩),
  (54, ⟨.struct #[⟨ "Outlet", 9, 0, false, "", "", 0⟩, ⟨ "Product", 9, 1, false, "", "", 16⟩, ⟨ "Period", 3, 2, false, "", "", 32⟩, ⟨ "Device", 9, 3, false, "", "", 40⟩, ⟨ "Number", 3, 4, false, "", "", 56⟩], 5, 64, .agg #[.string { data := #[] }, .string { data := #[] }, .int .i64 0, .string { data := #[] }, .int .i64 0], true⟩),
  (55, ⟨.struct #[⟨ "Device", 9, 0, false, "", "", 0⟩, ⟨ "Sequence", 3, 1, false, "", "", 16⟩, ⟨ "Kind", 3, 2, false, "", "", 24⟩, ⟨ "Visit", 52, 3, false, "", "", 32⟩, ⟨ "Decision", 54, 10, false, "", "", 112⟩], 15, 176, .agg #[.string { data := #[] }, .int .i64 0, .int .i64 0, .string { data := #[] }, .string { data := #[] }, .int .i64 0, .int .i64 0, .int .i64 0, .int .i64 0, .string { data := #[] }, .string { data := #[] }, .string { data := #[] }, .int .i64 0, .string { data := #[] }, .int .i64 0], true⟩),
  (56, ⟨.struct #[⟨ "Device", 9, 0, false, "", "", 0⟩, ⟨ "Sequence", 3, 1, false, "", "", 16⟩, ⟨ "Kind", 3, 2, false, "", "", 24⟩, ⟨ "Visit", 52, 3, false, "", "", 32⟩, ⟨ "Decision", 54, 10, false, "", "", 112⟩], 15, 176, .agg #[.string { data := #[] }, .int .i64 0, .int .i64 0, .string { data := #[] }, .string { data := #[] }, .int .i64 0, .int .i64 0, .int .i64 0, .int .i64 0, .string { data := #[] }, .string { data := #[] }, .string { data := #[] }, .int .i64 0, .string { data := #[] }, .int .i64 0], true⟩),
  (57, ⟨.func #[26] #[56] false, 1, 8, .nilFunc, false⟩),
  (58, ⟨.slice 56, 1, 24, .slice none 0 0, false⟩),
  (59, ⟨.func #[58] #[58] false, 1, 8, .nilFunc, false⟩),
  (60, ⟨.func #[56] #[30] false, 1, 8, .nilFunc, false⟩),
  (61, ⟨.func #[56, 23] #[4] false, 1, 8, .nilFunc, false⟩),
  (62, ⟨.func #[26] #[58] false, 1, 8, .nilFunc, false⟩),
  (63, ⟨.func #[58, 58] #[4] false, 1, 8, .nilFunc, false⟩),
  (64, ⟨.func #[58, 58] #[58] false, 1, 8, .nilFunc, false⟩),
  (65, ⟨.func #[58, 58, 23] #[4] false, 1, 8, .nilFunc, false⟩),
  (66, ⟨.func #[26, 58] #[58] false, 1, 8, .nilFunc, false⟩),
  (67, ⟨.tuple #[52, 3], 1, 0, .tuple #[.agg #[.string { data := #[] }, .string { data := #[] }, .int .i64 0, .int .i64 0, .int .i64 0, .int .i64 0, .string { data := #[] }], .int .i64 0], false⟩),
  (68, ⟨.func #[58, 9, 9, 3] #[52, 3] false, 1, 8, .nilFunc, false⟩),
  (69, ⟨.func #[58, 9, 9, 3, 23] #[4] false, 1, 8, .nilFunc, false⟩),
  (70, ⟨.func #[3] #[9] false, 1, 8, .nilFunc, false⟩),
  (71, ⟨.func #[] #[9] false, 1, 8, .nilFunc, false⟩),
  (72, ⟨.func #[] #[52] false, 1, 8, .nilFunc, false⟩),
  (73, ⟨.func #[] #[56] false, 1, 8, .nilFunc, false⟩),
  (74, ⟨.func #[3, 23] #[4] false, 1, 8, .nilFunc, false⟩),
  (75, ⟨.func #[58, 9, 9, 3] #[58] false, 1, 8, .nilFunc, false⟩),
  (76, ⟨.slice 79, 1, 24, .slice none 0 0, false⟩),
  (77, ⟨.func #[58] #[76] false, 1, 8, .nilFunc, false⟩),
  (78, ⟨.struct #[⟨ "Device", 9, 0, false, "", "", 0⟩, ⟨ "Sequence", 3, 1, false, "", "", 16⟩], 2, 24, .agg #[.string { data := #[] }, .int .i64 0], true⟩),
  (79, ⟨.struct #[⟨ "Device", 9, 0, false, "", "", 0⟩, ⟨ "Sequence", 3, 1, false, "", "", 16⟩], 2, 24, .agg #[.string { data := #[] }, .int .i64 0], true⟩),
  (80, ⟨.slice 9, 1, 24, .slice none 0 0, false⟩),
  (81, ⟨.slice 2, 1, 24, .slice none 0 0, false⟩),
  (82, ⟨.map 84 39, 1, 8, .map none, false⟩),
  (83, ⟨.struct #[⟨ "outlet", 9, 0, false, "", "priceoffice/scanner", 0⟩, ⟨ "product", 9, 1, false, "", "priceoffice/scanner", 16⟩, ⟨ "period", 3, 2, false, "", "priceoffice/scanner", 32⟩], 3, 40, .agg #[.string { data := #[] }, .string { data := #[] }, .int .i64 0], true⟩),
  (84, ⟨.struct #[⟨ "outlet", 9, 0, false, "", "priceoffice/scanner", 0⟩, ⟨ "product", 9, 1, false, "", "priceoffice/scanner", 16⟩, ⟨ "period", 3, 2, false, "", "priceoffice/scanner", 32⟩], 3, 40, .agg #[.string { data := #[] }, .string { data := #[] }, .int .i64 0], true⟩),
  (85, ⟨.func #[22, 88] #[] false, 1, 8, .nilFunc, false⟩),
  (86, ⟨.func #[23] #[3] true, 1, 8, .nilFunc, false⟩),
  (87, ⟨.func #[9, 9] #[3] false, 1, 8, .nilFunc, false⟩),
  (88, ⟨.func #[39, 39] #[3] false, 1, 8, .nilFunc, false⟩),
  (89, ⟨.func #[39, 39] #[4] false, 1, 8, .nilFunc, false⟩),
  (90, ⟨.func #[39] #[4] false, 1, 8, .nilFunc, false⟩),
  (91, ⟨.int .u64, 1, 8, .int .u64 0, false⟩),
  (92, ⟨.struct #[⟨ "Dimension", 3, 0, false, "", "", 0⟩, ⟨ "Count", 3, 1, false, "", "", 8⟩, ⟨ "Amount", 2, 2, false, "", "", 16⟩], 3, 24, .agg #[.int .i64 0, .int .i64 0, .int .i64 0], true⟩),
  (93, ⟨.struct #[⟨ "Dimension", 3, 0, false, "", "", 0⟩, ⟨ "Count", 3, 1, false, "", "", 8⟩, ⟨ "Amount", 2, 2, false, "", "", 16⟩], 3, 24, .agg #[.int .i64 0, .int .i64 0, .int .i64 0], true⟩),
  (94, ⟨.slice 122, 1, 24, .slice none 0 0, false⟩),
  (95, ⟨.struct #[⟨ "ID", 9, 0, false, "", "", 0⟩, ⟨ "Code", 9, 1, false, "", "", 16⟩, ⟨ "Brand", 9, 2, false, "", "", 32⟩, ⟨ "Size", 93, 3, false, "", "", 48⟩, ⟨ "Attributes", 94, 6, false, "", "", 72⟩], 7, 96, .agg #[.string { data := #[] }, .string { data := #[] }, .string { data := #[] }, .int .i64 0, .int .i64 0, .int .i64 0, .slice none 0 0], true⟩),
  (96, ⟨.struct #[⟨ "ID", 9, 0, false, "", "", 0⟩, ⟨ "Code", 9, 1, false, "", "", 16⟩, ⟨ "Brand", 9, 2, false, "", "", 32⟩, ⟨ "Size", 93, 3, false, "", "", 48⟩, ⟨ "Attributes", 94, 6, false, "", "", 72⟩], 7, 96, .agg #[.string { data := #[] }, .string { data := #[] }, .string { data := #[] }, .int .i64 0, .int .i64 0, .int .i64 0, .slice none 0 0], true⟩),
  (97, ⟨.func #[3] #[96] false, 1, 8, .nilFunc, false⟩),
  (98, ⟨.map 9 2, 1, 8, .map none, false⟩),
  (99, ⟨.func #[22, 3] #[98] false, 1, 8, .nilFunc, false⟩),
  (100, ⟨.tuple #[96, 4], 1, 0, .tuple #[.agg #[.string { data := #[] }, .string { data := #[] }, .string { data := #[] }, .int .i64 0, .int .i64 0, .int .i64 0, .slice none 0 0], .bool false], false⟩),
  (101, ⟨.func #[44, 9] #[96, 4] false, 1, 8, .nilFunc, false⟩),
  (102, ⟨.func #[9] #[4] false, 1, 8, .nilFunc, false⟩),
  (103, ⟨.func #[52] #[4] false, 1, 8, .nilFunc, false⟩),
  (104, ⟨.func #[9, 9, 3] #[4] false, 1, 8, .nilFunc, false⟩),
  (105, ⟨.func #[54] #[4] false, 1, 8, .nilFunc, false⟩),
  (106, ⟨.func #[3] #[58] false, 1, 8, .nilFunc, false⟩),
  (107, ⟨.func #[127] #[58] true, 1, 8, .nilFunc, false⟩),
  (108, ⟨.func #[58, 109] #[] false, 1, 8, .nilFunc, false⟩),
  (109, ⟨.func #[56, 56] #[3] false, 1, 8, .nilFunc, false⟩),
  (110, ⟨.func #[58, 111] #[4] false, 1, 8, .nilFunc, false⟩),
  (111, ⟨.func #[56] #[4] false, 1, 8, .nilFunc, false⟩),
  (112, ⟨.func #[58, 111] #[3] false, 1, 8, .nilFunc, false⟩),
  (113, ⟨.func #[56] #[79] false, 1, 8, .nilFunc, false⟩),
  (114, ⟨.slice 5, 1, 24, .slice none 0 0, false⟩),
  (115, ⟨.tuple #[3, 4], 1, 0, .tuple #[.int .i64 0, .bool false], false⟩),
  (116, ⟨.func #[9] #[3, 4] false, 1, 8, .nilFunc, false⟩),
  (117, ⟨.func #[52, 9, 9, 3] #[4] false, 1, 8, .nilFunc, false⟩),
  (118, ⟨.func #[22, 3, 3, 3, 88] #[] false, 1, 8, .nilFunc, false⟩),
  (119, ⟨.func #[120] #[3] false, 1, 8, .nilFunc, false⟩),
  (120, ⟨.int .u64, 1, 8, .int .u64 0, false⟩),
  (121, ⟨.struct #[⟨ "Name", 9, 0, false, "", "", 0⟩, ⟨ "Value", 9, 1, false, "", "", 16⟩], 2, 32, .agg #[.string { data := #[] }, .string { data := #[] }], true⟩),
  (122, ⟨.struct #[⟨ "Name", 9, 0, false, "", "", 0⟩, ⟨ "Value", 9, 1, false, "", "", 16⟩], 2, 32, .agg #[.string { data := #[] }, .string { data := #[] }], true⟩),
  (123, ⟨.func #[44, 124] #[3] false, 1, 8, .nilFunc, false⟩),
  (124, ⟨.func #[96] #[4] false, 1, 8, .nilFunc, false⟩),
  (125, ⟨.func #[94] #[94] false, 1, 8, .nilFunc, false⟩),
  (126, ⟨.func #[96] #[30] false, 1, 8, .nilFunc, false⟩),
  (127, ⟨.slice 58, 1, 24, .slice none 0 0, false⟩),
  (128, ⟨.func #[58, 3] #[58] false, 1, 8, .nilFunc, false⟩),
  (129, ⟨.func #[58, 3, 3, 3, 109] #[] false, 1, 8, .nilFunc, false⟩),
  (130, ⟨.func #[2, 2] #[3] false, 1, 8, .nilFunc, false⟩),
  (131, ⟨.map 79 3, 1, 8, .map none, false⟩),
  (132, ⟨.func #[58] #[131] false, 1, 8, .nilFunc, false⟩),
  (133, ⟨.func #[58, 111] #[58] false, 1, 8, .nilFunc, false⟩),
  (134, ⟨.func #[56, 56] #[4] false, 1, 8, .nilFunc, false⟩),
  (135, ⟨.func #[22, 3, 3, 88] #[] false, 1, 8, .nilFunc, false⟩),
  (136, ⟨.int .i64, 1, 8, .int .i64 0, false⟩),
  (137, ⟨.tuple #[3, 136], 1, 0, .tuple #[.int .i64 0, .int .i64 0], false⟩),
  (138, ⟨.func #[22, 3, 3, 88] #[3, 136] false, 1, 8, .nilFunc, false⟩),
  (139, ⟨.func #[22, 3, 3, 88] #[4] false, 1, 8, .nilFunc, false⟩),
  (140, ⟨.func #[22, 3, 3, 3, 88] #[3] false, 1, 8, .nilFunc, false⟩),
  (141, ⟨.func #[22, 3, 3, 3, 88] #[3, 4] false, 1, 8, .nilFunc, false⟩),
  (142, ⟨.func #[143] #[3] false, 1, 8, .nilFunc, false⟩),
  (143, ⟨.int .u32, 1, 4, .int .u32 0, false⟩),
  (144, ⟨.func #[91] #[3] false, 1, 8, .nilFunc, false⟩),
  (145, ⟨.func #[9, 3, 3] #[4] false, 1, 8, .nilFunc, false⟩),
  (146, ⟨.func #[9] #[3] false, 1, 8, .nilFunc, false⟩),
  (147, ⟨.func #[93] #[30] false, 1, 8, .nilFunc, false⟩),
  (148, ⟨.map 9 4, 1, 8, .map none, false⟩),
  (149, ⟨.func #[58, 3, 3, 109] #[] false, 1, 8, .nilFunc, false⟩),
  (150, ⟨.func #[58, 3, 3, 109] #[3, 136] false, 1, 8, .nilFunc, false⟩),
  (151, ⟨.func #[58, 3, 3, 109] #[4] false, 1, 8, .nilFunc, false⟩),
  (152, ⟨.func #[58, 3, 3, 3, 109] #[3] false, 1, 8, .nilFunc, false⟩),
  (153, ⟨.func #[58, 3, 3, 3, 109] #[3, 4] false, 1, 8, .nilFunc, false⟩),
  (154, ⟨.func #[2] #[4] false, 1, 8, .nilFunc, false⟩),
  (155, ⟨.int .u64, 1, 8, .int .u64 0, false⟩),
  (156, ⟨.func #[3] #[120] false, 1, 8, .nilFunc, false⟩),
  (157, ⟨.func #[] #[91] false, 1, 8, .nilFunc, false⟩),
  (158, ⟨.func #[22, 3, 159, 88] #[3] false, 1, 8, .nilFunc, false⟩),
  (159, ⟨.pointer 3, 1, 8, .pointer none, false⟩),
  (160, ⟨.func #[22, 3, 3, 3, 159, 88] #[3] false, 1, 8, .nilFunc, false⟩),
  (161, ⟨.func #[9, 9] #[9] false, 1, 8, .nilFunc, false⟩),
  (162, ⟨.tuple #[23, 30], 1, 0, .tuple #[.slice none 0 0, .int .i64 0], false⟩),
  (163, ⟨.func #[9] #[23, 30] false, 1, 8, .nilFunc, false⟩),
  (164, ⟨.func #[9, 166] #[4] false, 1, 8, .nilFunc, false⟩),
  (165, ⟨.func #[9, 21] #[4] false, 1, 8, .nilFunc, false⟩),
  (166, ⟨.func #[21] #[4] false, 1, 8, .nilFunc, false⟩),
  (167, ⟨.func #[58, 3, 159, 109] #[3] false, 1, 8, .nilFunc, false⟩),
  (168, ⟨.func #[58, 3, 3, 3, 159, 109] #[3] false, 1, 8, .nilFunc, false⟩),
  (169, ⟨.pointer 155, 1, 8, .pointer none, false⟩),
  (170, ⟨.tuple #[3, 3], 1, 0, .tuple #[.int .i64 0, .int .i64 0], false⟩),
  (171, ⟨.func #[22, 3, 3, 159, 88] #[3, 3] false, 1, 8, .nilFunc, false⟩),
  (172, ⟨.func #[9, 5] #[9] false, 1, 8, .nilFunc, false⟩),
  (176, ⟨.func #[9] #[174, 4] false, 1, 8, .nilFunc, false⟩),
  (177, ⟨.func #[9, 178] #[9] false, 1, 8, .nilFunc, false⟩),
  (178, ⟨.pointer 174, 1, 8, .pointer none, false⟩),
  (179, ⟨.func #[9, 9] #[80] false, 1, 8, .nilFunc, false⟩),
  (180, ⟨.interface #[("Error", 71)], 1, 16, .nilIface, false⟩),
  (181, ⟨.interface #[("Error", 71)], 1, 16, .nilIface, false⟩),
  (182, ⟨.tuple #[3, 181], 1, 0, .tuple #[.int .i64 0, .nilIface], false⟩),
  (183, ⟨.func #[9] #[3, 181] false, 1, 8, .nilFunc, false⟩),
  (184, ⟨.tuple #[9, 30], 1, 0, .tuple #[.string { data := #[] }, .int .i64 0], false⟩),
  (185, ⟨.func #[23] #[9, 30] false, 1, 8, .nilFunc, false⟩),
  (186, ⟨.func #[9, 166] #[3] false, 1, 8, .nilFunc, false⟩),
  (187, ⟨.func #[9, 21] #[3] false, 1, 8, .nilFunc, false⟩),
  (188, ⟨.func #[58, 3, 3, 159, 109] #[3, 3] false, 1, 8, .nilFunc, false⟩),
  (189, ⟨.func #[5] #[4] false, 1, 8, .nilFunc, false⟩),
  (190, ⟨.tuple #[21, 3], 1, 0, .tuple #[.int .i32 0, .int .i64 0], false⟩),
  (191, ⟨.func #[9] #[21, 3] false, 1, 8, .nilFunc, false⟩),
  (192, ⟨.func #[9, 9, 3, 3] #[80] false, 1, 8, .nilFunc, false⟩),
  (193, ⟨.func #[9, 9, 3, 3, 181] #[181] false, 1, 8, .nilFunc, false⟩),
  (194, ⟨.func #[23] #[3] false, 1, 8, .nilFunc, false⟩),
  (195, ⟨.func #[9, 166, 4] #[3] false, 1, 8, .nilFunc, false⟩),
  (196, ⟨.func #[9, 5] #[3] false, 1, 8, .nilFunc, false⟩),
  (197, ⟨.func #[9, 3] #[80] false, 1, 8, .nilFunc, false⟩),
  (198, ⟨.int .i64, 1, 8, .int .i64 0, false⟩),
  (199, ⟨.tuple #[2, 181], 1, 0, .tuple #[.int .i64 0, .nilIface], false⟩),
  (200, ⟨.func #[9, 3, 3] #[2, 181] false, 1, 8, .nilFunc, false⟩),
  (201, ⟨.pointer 212, 1, 8, .pointer none, false⟩),
  (202, ⟨.func #[9, 9] #[201] false, 1, 8, .nilFunc, false⟩),
  (203, ⟨.func #[9, 9, 3] #[201] false, 1, 8, .nilFunc, false⟩),
  (205, ⟨.struct #[⟨ "lo", 5, 0, false, "", "unicode/utf8", 0⟩, ⟨ "hi", 5, 1, false, "", "unicode/utf8", 1⟩], 2, 2, .agg #[.int .u8 0, .int .u8 0], true⟩),
  (206, ⟨.struct #[⟨ "lo", 5, 0, false, "", "unicode/utf8", 0⟩, ⟨ "hi", 5, 1, false, "", "unicode/utf8", 1⟩], 2, 2, .agg #[.int .u8 0, .int .u8 0], true⟩),
  (207, ⟨.array 16 206, 32, 32, .agg #[.int .u8 0, .int .u8 0, .int .u8 0, .int .u8 0, .int .u8 0, .int .u8 0, .int .u8 0, .int .u8 0, .int .u8 0, .int .u8 0, .int .u8 0, .int .u8 0, .int .u8 0, .int .u8 0, .int .u8 0, .int .u8 0, .int .u8 0, .int .u8 0, .int .u8 0, .int .u8 0, .int .u8 0, .int .u8 0, .int .u8 0, .int .u8 0, .int .u8 0, .int .u8 0, .int .u8 0, .int .u8 0, .int .u8 0, .int .u8 0, .int .u8 0, .int .u8 0], false⟩),
  (208, ⟨.tuple #[91, 181], 1, 0, .tuple #[.int .u64 0, .nilIface], false⟩),
  (209, ⟨.func #[9, 3, 3] #[91, 181] false, 1, 8, .nilFunc, false⟩),
  (210, ⟨.func #[9] #[9] false, 1, 8, .nilFunc, false⟩),
  (211, ⟨.struct #[⟨ "Func", 9, 0, false, "", "", 0⟩, ⟨ "Num", 9, 1, false, "", "", 16⟩, ⟨ "Err", 181, 2, false, "", "", 32⟩], 3, 48, .agg #[.string { data := #[] }, .string { data := #[] }, .nilIface], false⟩),
  (212, ⟨.struct #[⟨ "Func", 9, 0, false, "", "", 0⟩, ⟨ "Num", 9, 1, false, "", "", 16⟩, ⟨ "Err", 181, 2, false, "", "", 32⟩], 3, 48, .agg #[.string { data := #[] }, .string { data := #[] }, .nilIface], false⟩),
  (213, ⟨.func #[9] #[181] false, 1, 8, .nilFunc, false⟩),
  (214, ⟨.func #[2, 3] #[9] false, 1, 8, .nilFunc, false⟩),
  (215, ⟨.func #[5] #[5] false, 1, 8, .nilFunc, false⟩),
  (216, ⟨.pointer 5, 1, 8, .pointer none, false⟩),
  (217, ⟨.pointer 219, 1, 8, .pointer none, false⟩),
  (218, ⟨.struct #[⟨ "s", 9, 0, false, "", "errors", 0⟩], 1, 16, .agg #[.string { data := #[] }], true⟩),
  (219, ⟨.struct #[⟨ "s", 9, 0, false, "", "errors", 0⟩], 1, 16, .agg #[.string { data := #[] }], true⟩),
  (220, ⟨.array 24 5, 24, 24, .agg #[.int .u8 0, .int .u8 0, .int .u8 0, .int .u8 0, .int .u8 0, .int .u8 0, .int .u8 0, .int .u8 0, .int .u8 0, .int .u8 0, .int .u8 0, .int .u8 0, .int .u8 0, .int .u8 0, .int .u8 0, .int .u8 0, .int .u8 0, .int .u8 0, .int .u8 0, .int .u8 0, .int .u8 0, .int .u8 0, .int .u8 0, .int .u8 0], false⟩),
  (221, ⟨.func #[114, 91] #[] false, 1, 8, .nilFunc, false⟩),
  (222, ⟨.tuple #[114, 9], 1, 0, .tuple #[.slice none 0 0, .string { data := #[] }], false⟩),
  (223, ⟨.func #[114, 91, 3, 4, 4] #[114, 9] false, 1, 8, .nilFunc, false⟩),
  (224, ⟨.tuple #[143, 143], 1, 0, .tuple #[.int .u32 0, .int .u32 0], false⟩),
  (225, ⟨.func #[9] #[143, 143] false, 1, 8, .nilFunc, false⟩),
  (226, ⟨.func #[4] #[3] false, 1, 8, .nilFunc, false⟩),
  (227, ⟨.array 20 91, 20, 160, .agg #[.int .u64 0, .int .u64 0, .int .u64 0, .int .u64 0, .int .u64 0, .int .u64 0, .int .u64 0, .int .u64 0, .int .u64 0, .int .u64 0, .int .u64 0, .int .u64 0, .int .u64 0, .int .u64 0, .int .u64 0, .int .u64 0, .int .u64 0, .int .u64 0, .int .u64 0, .int .u64 0], false⟩),
  (228, ⟨.array 65 5, 65, 65, .agg ([.int .u8 0, .int .u8 0, .int .u8 0, .int .u8 0, .int .u8 0, .int .u8 0, .int .u8 0, .int .u8 0, .int .u8 0, .int .u8 0, .int .u8 0, .int .u8 0, .int .u8 0, .int .u8 0, .int .u8 0, .int .u8 0, .int .u8 0, .int .u8 0, .int .u8 0, .int .u8 0, .int .u8 0, .int .u8 0, .int .u8 0, .int .u8 0, .int .u8 0, .int .u8 0, .int .u8 0, .int .u8 0, .int .u8 0, .int .u8 0, .int .u8 0, .int .u8 0].append [.int .u8 0, .int .u8 0, .int .u8 0, .int .u8 0, .int .u8 0, .int .u8 0, .int .u8 0, .int .u8 0, .int .u8 0, .int .u8 0, .int .u8 0, .int .u8 0, .int .u8 0, .int .u8 0, .int .u8 0, .int .u8 0, .int .u8 0, .int .u8 0, .int .u8 0, .int .u8 0, .int .u8 0, .int .u8 0, .int .u8 0, .int .u8 0, .int .u8 0, .int .u8 0, .int .u8 0, .int .u8 0, .int .u8 0, .int .u8 0, .int .u8 0, .int .u8 0, .int .u8 0]).toArray, false⟩),
  (229, ⟨.array 32 5, 32, 32, .agg #[.int .u8 0, .int .u8 0, .int .u8 0, .int .u8 0, .int .u8 0, .int .u8 0, .int .u8 0, .int .u8 0, .int .u8 0, .int .u8 0, .int .u8 0, .int .u8 0, .int .u8 0, .int .u8 0, .int .u8 0, .int .u8 0, .int .u8 0, .int .u8 0, .int .u8 0, .int .u8 0, .int .u8 0, .int .u8 0, .int .u8 0, .int .u8 0, .int .u8 0, .int .u8 0, .int .u8 0, .int .u8 0, .int .u8 0, .int .u8 0, .int .u8 0, .int .u8 0], false⟩),
  (230, ⟨.array 64 5, 64, 64, .agg #[.int .u8 0, .int .u8 0, .int .u8 0, .int .u8 0, .int .u8 0, .int .u8 0, .int .u8 0, .int .u8 0, .int .u8 0, .int .u8 0, .int .u8 0, .int .u8 0, .int .u8 0, .int .u8 0, .int .u8 0, .int .u8 0, .int .u8 0, .int .u8 0, .int .u8 0, .int .u8 0, .int .u8 0, .int .u8 0, .int .u8 0, .int .u8 0, .int .u8 0, .int .u8 0, .int .u8 0, .int .u8 0, .int .u8 0, .int .u8 0, .int .u8 0, .int .u8 0, .int .u8 0, .int .u8 0, .int .u8 0, .int .u8 0, .int .u8 0, .int .u8 0, .int .u8 0, .int .u8 0, .int .u8 0, .int .u8 0, .int .u8 0, .int .u8 0, .int .u8 0, .int .u8 0, .int .u8 0, .int .u8 0, .int .u8 0, .int .u8 0, .int .u8 0, .int .u8 0, .int .u8 0, .int .u8 0, .int .u8 0, .int .u8 0, .int .u8 0, .int .u8 0, .int .u8 0, .int .u8 0, .int .u8 0, .int .u8 0, .int .u8 0, .int .u8 0], false⟩),
  (231, ⟨.struct #[⟨ "_interface", 17, 0, false, "", "runtime", 0⟩, ⟨ "concrete", 17, 1, false, "", "runtime", 8⟩, ⟨ "asserted", 17, 2, false, "", "runtime", 16⟩, ⟨ "missingMethod", 9, 3, false, "", "runtime", 24⟩], 4, 40, .agg #[.pointer none, .pointer none, .pointer none, .string { data := #[] }], false⟩),
  (232, ⟨.struct #[⟨ "_interface", 17, 0, false, "", "runtime", 0⟩, ⟨ "concrete", 17, 1, false, "", "runtime", 8⟩, ⟨ "asserted", 17, 2, false, "", "runtime", 16⟩, ⟨ "missingMethod", 9, 3, false, "", "runtime", 24⟩], 4, 40, .agg #[.pointer none, .pointer none, .pointer none, .string { data := #[] }], false⟩),
  (233, ⟨.array 0 16, 0, 0, .agg #[], false⟩),
  (234, ⟨.struct #[⟨ "_", 233, 0, false, "", "runtime", 0⟩], 0, 0, .agg #[], false⟩),
  (235, ⟨.struct #[⟨ "_", 233, 0, false, "", "runtime", 0⟩], 0, 0, .agg #[], false⟩),
  (236, ⟨.func #[] #[3] false, 1, 8, .nilFunc, false⟩),
  (237, ⟨.int .u8, 1, 1, .int .u8 0, false⟩),
  (238, ⟨.int .u8, 1, 1, .int .u8 0, false⟩),
  (239, ⟨.func #[244, 244] #[4] false, 1, 8, .nilFunc, false⟩),
  (240, ⟨.int .i32, 1, 4, .int .i32 0, false⟩),
  (241, ⟨.int .i32, 1, 4, .int .i32 0, false⟩),
  (242, ⟨.struct #[⟨ "Size_", 12, 0, false, "", "", 0⟩, ⟨ "PtrBytes", 12, 1, false, "", "", 8⟩, ⟨ "Hash", 143, 2, false, "", "", 16⟩, ⟨ "TFlag", 237, 3, false, "", "", 20⟩, ⟨ "Align_", 5, 4, false, "", "", 21⟩, ⟨ "FieldAlign_", 5, 5, false, "", "", 22⟩, ⟨ "Kind_", 238, 6, false, "", "", 23⟩, ⟨ "Equal", 239, 7, false, "", "", 24⟩, ⟨ "GCData", 216, 8, false, "", "", 32⟩, ⟨ "Str", 240, 9, false, "", "", 40⟩, ⟨ "PtrToThis", 241, 10, false, "", "", 44⟩], 11, 48, .agg #[.int .u64 0, .int .u64 0, .int .u32 0, .int .u8 0, .int .u8 0, .int .u8 0, .int .u8 0, .nilFunc, .pointer none, .int .i32 0, .int .i32 0], false⟩),
  (243, ⟨.struct #[⟨ "Size_", 12, 0, false, "", "", 0⟩, ⟨ "PtrBytes", 12, 1, false, "", "", 8⟩, ⟨ "Hash", 143, 2, false, "", "", 16⟩, ⟨ "TFlag", 237, 3, false, "", "", 20⟩, ⟨ "Align_", 5, 4, false, "", "", 21⟩, ⟨ "FieldAlign_", 5, 5, false, "", "", 22⟩, ⟨ "Kind_", 238, 6, false, "", "", 23⟩, ⟨ "Equal", 239, 7, false, "", "", 24⟩, ⟨ "GCData", 216, 8, false, "", "", 32⟩, ⟨ "Str", 240, 9, false, "", "", 40⟩, ⟨ "PtrToThis", 241, 10, false, "", "", 44⟩], 11, 48, .agg #[.int .u64 0, .int .u64 0, .int .u32 0, .int .u8 0, .int .u8 0, .int .u8 0, .int .u8 0, .nilFunc, .pointer none, .int .i32 0, .int .i32 0], false⟩),
  (244, ⟨.unsafePointer, 1, 8, .pointer none, false⟩)]
theorem te_ok : TE.ok Tryz.prog te := by
  refine TE.ok_cons Tryz.underlying0 ⟨_, Tryz.type0, rfl, rfl, rfl⟩ nofun ?_
  refine TE.ok_cons Tryz.underlying1 ⟨_, Tryz.type1, rfl, rfl, rfl⟩ nofun ?_
  refine TE.ok_cons Tryz.underlying2 ⟨_, Tryz.type2, rfl, rfl, rfl⟩ nofun ?_
  refine TE.ok_cons Tryz.underlying3 ⟨_, Tryz.type3, rfl, rfl, rfl⟩ nofun ?_
  refine TE.ok_cons Tryz.underlying4 ⟨_, Tryz.type4, rfl, rfl, rfl⟩ nofun ?_
  refine TE.ok_cons Tryz.underlying5 ⟨_, Tryz.type5, rfl, rfl, rfl⟩ nofun ?_
  refine TE.ok_cons Tryz.underlying6 ⟨_, Tryz.type6, rfl, rfl, rfl⟩ nofun ?_
  refine TE.ok_cons Tryz.underlying7 ⟨Tryz.t7, Tryz.type7, rfl, rfl, rfl⟩ (fun _ => ⟨Tryz.stoodInHeld7, Tryz.eqGuardType7, fun fs h f hf => by cases h; revert f; decide⟩) ?_
  refine TE.ok_cons Tryz.underlying8 ⟨Tryz.t8, Tryz.type8, rfl, rfl, rfl⟩ (fun _ => ⟨Tryz.stoodInHeld8, Tryz.eqGuardType8, fun fs h f hf => by cases h; revert f; decide⟩) ?_
  refine TE.ok_cons Tryz.underlying9 ⟨_, Tryz.type9, rfl, rfl, rfl⟩ nofun ?_
  refine TE.ok_cons Tryz.underlying10 ⟨_, Tryz.type10, rfl, rfl, rfl⟩ nofun ?_
  refine TE.ok_cons Tryz.underlying11 ⟨_, Tryz.type11, rfl, rfl, rfl⟩ nofun ?_
  refine TE.ok_cons Tryz.underlying12 ⟨_, Tryz.type12, rfl, rfl, rfl⟩ nofun ?_
  refine TE.ok_cons Tryz.underlying13 ⟨_, Tryz.type13, rfl, rfl, rfl⟩ nofun ?_
  refine TE.ok_cons Tryz.underlying14 ⟨_, Tryz.type14, rfl, rfl, rfl⟩ nofun ?_
  refine TE.ok_cons Tryz.underlying15 ⟨_, Tryz.type15, rfl, rfl, rfl⟩ nofun ?_
  refine TE.ok_cons Tryz.underlying16 ⟨_, Tryz.type16, rfl, rfl, rfl⟩ nofun ?_
  refine TE.ok_cons Tryz.underlying17 ⟨_, Tryz.type17, rfl, rfl, rfl⟩ nofun ?_
  refine TE.ok_cons Tryz.underlying18 ⟨_, Tryz.type18, rfl, rfl, rfl⟩ nofun ?_
  refine TE.ok_cons Tryz.underlying19 ⟨_, Tryz.type19, rfl, rfl, rfl⟩ nofun ?_
  refine TE.ok_cons Tryz.underlying20 ⟨_, Tryz.type20, rfl, rfl, rfl⟩ nofun ?_
  refine TE.ok_cons Tryz.underlying21 ⟨_, Tryz.type21, rfl, rfl, rfl⟩ nofun ?_
  refine TE.ok_cons Tryz.underlying22 ⟨_, Tryz.type22, rfl, rfl, rfl⟩ nofun ?_
  refine TE.ok_cons Tryz.underlying23 ⟨_, Tryz.type23, rfl, rfl, rfl⟩ nofun ?_
  refine TE.ok_cons Tryz.underlying24 ⟨_, Tryz.type24, rfl, rfl, rfl⟩ nofun ?_
  refine TE.ok_cons Tryz.underlying25 ⟨_, Tryz.type25, rfl, rfl, rfl⟩ nofun ?_
  refine TE.ok_cons Tryz.underlying26 ⟨_, Tryz.type26, rfl, rfl, rfl⟩ nofun ?_
  refine TE.ok_cons Tryz.underlying27 ⟨Tryz.t27, Tryz.type27, rfl, rfl, rfl⟩ (fun _ => ⟨Tryz.stoodInHeld27, Tryz.eqGuardType27, fun fs h f hf => by cases h; revert f; decide⟩) ?_
  refine TE.ok_cons Tryz.underlying28 ⟨Tryz.t28, Tryz.type28, rfl, rfl, rfl⟩ (fun _ => ⟨Tryz.stoodInHeld28, Tryz.eqGuardType28, fun fs h f hf => by cases h; revert f; decide⟩) ?_
  refine TE.ok_cons Tryz.underlying29 ⟨_, Tryz.type29, rfl, rfl, rfl⟩ nofun ?_
  refine TE.ok_cons Tryz.underlying30 ⟨_, Tryz.type30, rfl, rfl, rfl⟩ nofun ?_
  refine TE.ok_cons Tryz.underlying31 ⟨_, Tryz.type31, rfl, rfl, rfl⟩ nofun ?_
  refine TE.ok_cons Tryz.underlying32 ⟨_, Tryz.type32, rfl, rfl, rfl⟩ nofun ?_
  refine TE.ok_cons Tryz.underlying33 ⟨_, Tryz.type33, rfl, rfl, rfl⟩ nofun ?_
  refine TE.ok_cons Tryz.underlying34 ⟨_, Tryz.type34, rfl, rfl, rfl⟩ nofun ?_
  refine TE.ok_cons Tryz.underlying35 ⟨_, Tryz.type35, rfl, rfl, rfl⟩ nofun ?_
  refine TE.ok_cons Tryz.underlying36 ⟨_, Tryz.type36, rfl, rfl, rfl⟩ nofun ?_
  refine TE.ok_cons Tryz.underlying37 ⟨_, Tryz.type37, rfl, rfl, rfl⟩ nofun ?_
  refine TE.ok_cons Tryz.underlying38 ⟨Tryz.t38, Tryz.type38, rfl, rfl, rfl⟩ (fun _ => ⟨Tryz.stoodInHeld38, Tryz.eqGuardType38, fun fs h f hf => by cases h; revert f; decide⟩) ?_
  refine TE.ok_cons Tryz.underlying39 ⟨Tryz.t39, Tryz.type39, rfl, rfl, rfl⟩ (fun _ => ⟨Tryz.stoodInHeld39, Tryz.eqGuardType39, fun fs h f hf => by cases h; revert f; decide⟩) ?_
  refine TE.ok_cons Tryz.underlying40 ⟨_, Tryz.type40, rfl, rfl, rfl⟩ nofun ?_
  refine TE.ok_cons Tryz.underlying41 ⟨_, Tryz.type41, rfl, rfl, rfl⟩ nofun ?_
  refine TE.ok_cons Tryz.underlying42 ⟨_, Tryz.type42, rfl, rfl, rfl⟩ nofun ?_
  refine TE.ok_cons Tryz.underlying43 ⟨_, Tryz.type43, rfl, rfl, rfl⟩ nofun ?_
  refine TE.ok_cons Tryz.underlying44 ⟨_, Tryz.type44, rfl, rfl, rfl⟩ nofun ?_
  refine TE.ok_cons Tryz.underlying45 ⟨_, Tryz.type45, rfl, rfl, rfl⟩ nofun ?_
  refine TE.ok_cons Tryz.underlying46 ⟨_, Tryz.type46, rfl, rfl, rfl⟩ nofun ?_
  refine TE.ok_cons Tryz.underlying47 ⟨_, Tryz.type47, rfl, rfl, rfl⟩ nofun ?_
  refine TE.ok_cons Tryz.underlying48 ⟨_, Tryz.type48, rfl, rfl, rfl⟩ nofun ?_
  refine TE.ok_cons Tryz.underlying49 ⟨_, Tryz.type49, rfl, rfl, rfl⟩ nofun ?_
  refine TE.ok_cons Tryz.underlying50 ⟨_, Tryz.type50, rfl, rfl, rfl⟩ nofun ?_
  refine TE.ok_cons Tryz.underlying51 ⟨Tryz.t51, Tryz.type51, rfl, rfl, rfl⟩ (fun _ => ⟨Tryz.stoodInHeld51, Tryz.eqGuardType51, fun fs h f hf => by cases h; revert f; decide⟩) ?_
  refine TE.ok_cons Tryz.underlying52 ⟨Tryz.t52, Tryz.type52, rfl, rfl, rfl⟩ (fun _ => ⟨Tryz.stoodInHeld52, Tryz.eqGuardType52, fun fs h f hf => by cases h; revert f; decide⟩) ?_
  refine TE.ok_cons Tryz.underlying53 ⟨Tryz.t53, Tryz.type53, rfl, rfl, rfl⟩ (fun _ => ⟨Tryz.stoodInHeld53, Tryz.eqGuardType53, fun fs h f hf => by cases h; revert f; decide⟩) ?_
  refine TE.ok_cons Tryz.underlying54 ⟨Tryz.t54, Tryz.type54, rfl, rfl, rfl⟩ (fun _ => ⟨Tryz.stoodInHeld54, Tryz.eqGuardType54, fun fs h f hf => by cases h; revert f; decide⟩) ?_
  refine TE.ok_cons Tryz.underlying55 ⟨Tryz.t55, Tryz.type55, rfl, rfl, rfl⟩ (fun _ => ⟨Tryz.stoodInHeld55, Tryz.eqGuardType55, fun fs h f hf => by cases h; revert f; decide⟩) ?_
  refine TE.ok_cons Tryz.underlying56 ⟨Tryz.t56, Tryz.type56, rfl, rfl, rfl⟩ (fun _ => ⟨Tryz.stoodInHeld56, Tryz.eqGuardType56, fun fs h f hf => by cases h; revert f; decide⟩) ?_
  refine TE.ok_cons Tryz.underlying57 ⟨_, Tryz.type57, rfl, rfl, rfl⟩ nofun ?_
  refine TE.ok_cons Tryz.underlying58 ⟨_, Tryz.type58, rfl, rfl, rfl⟩ nofun ?_
  refine TE.ok_cons Tryz.underlying59 ⟨_, Tryz.type59, rfl, rfl, rfl⟩ nofun ?_
  refine TE.ok_cons Tryz.underlying60 ⟨_, Tryz.type60, rfl, rfl, rfl⟩ nofun ?_
  refine TE.ok_cons Tryz.underlying61 ⟨_, Tryz.type61, rfl, rfl, rfl⟩ nofun ?_
  refine TE.ok_cons Tryz.underlying62 ⟨_, Tryz.type62, rfl, rfl, rfl⟩ nofun ?_
  refine TE.ok_cons Tryz.underlying63 ⟨_, Tryz.type63, rfl, rfl, rfl⟩ nofun ?_
  refine TE.ok_cons Tryz.underlying64 ⟨_, Tryz.type64, rfl, rfl, rfl⟩ nofun ?_
  refine TE.ok_cons Tryz.underlying65 ⟨_, Tryz.type65, rfl, rfl, rfl⟩ nofun ?_
  refine TE.ok_cons Tryz.underlying66 ⟨_, Tryz.type66, rfl, rfl, rfl⟩ nofun ?_
  refine TE.ok_cons Tryz.underlying67 ⟨_, Tryz.type67, rfl, rfl, rfl⟩ nofun ?_
  refine TE.ok_cons Tryz.underlying68 ⟨_, Tryz.type68, rfl, rfl, rfl⟩ nofun ?_
  refine TE.ok_cons Tryz.underlying69 ⟨_, Tryz.type69, rfl, rfl, rfl⟩ nofun ?_
  refine TE.ok_cons Tryz.underlying70 ⟨_, Tryz.type70, rfl, rfl, rfl⟩ nofun ?_
  refine TE.ok_cons Tryz.underlying71 ⟨_, Tryz.type71, rfl, rfl, rfl⟩ nofun ?_
  refine TE.ok_cons Tryz.underlying72 ⟨_, Tryz.type72, rfl, rfl, rfl⟩ nofun ?_
  refine TE.ok_cons Tryz.underlying73 ⟨_, Tryz.type73, rfl, rfl, rfl⟩ nofun ?_
  refine TE.ok_cons Tryz.underlying74 ⟨_, Tryz.type74, rfl, rfl, rfl⟩ nofun ?_
  refine TE.ok_cons Tryz.underlying75 ⟨_, Tryz.type75, rfl, rfl, rfl⟩ nofun ?_
  refine TE.ok_cons Tryz.underlying76 ⟨_, Tryz.type76, rfl, rfl, rfl⟩ nofun ?_
  refine TE.ok_cons Tryz.underlying77 ⟨_, Tryz.type77, rfl, rfl, rfl⟩ nofun ?_
  refine TE.ok_cons Tryz.underlying78 ⟨Tryz.t78, Tryz.type78, rfl, rfl, rfl⟩ (fun _ => ⟨Tryz.stoodInHeld78, Tryz.eqGuardType78, fun fs h f hf => by cases h; revert f; decide⟩) ?_
  refine TE.ok_cons Tryz.underlying79 ⟨Tryz.t79, Tryz.type79, rfl, rfl, rfl⟩ (fun _ => ⟨Tryz.stoodInHeld79, Tryz.eqGuardType79, fun fs h f hf => by cases h; revert f; decide⟩) ?_
  refine TE.ok_cons Tryz.underlying80 ⟨_, Tryz.type80, rfl, rfl, rfl⟩ nofun ?_
  refine TE.ok_cons Tryz.underlying81 ⟨_, Tryz.type81, rfl, rfl, rfl⟩ nofun ?_
  refine TE.ok_cons Tryz.underlying82 ⟨_, Tryz.type82, rfl, rfl, rfl⟩ nofun ?_
  refine TE.ok_cons Tryz.underlying83 ⟨Tryz.t83, Tryz.type83, rfl, rfl, rfl⟩ (fun _ => ⟨Tryz.stoodInHeld83, Tryz.eqGuardType83, fun fs h f hf => by cases h; revert f; decide⟩) ?_
  refine TE.ok_cons Tryz.underlying84 ⟨Tryz.t84, Tryz.type84, rfl, rfl, rfl⟩ (fun _ => ⟨Tryz.stoodInHeld84, Tryz.eqGuardType84, fun fs h f hf => by cases h; revert f; decide⟩) ?_
  refine TE.ok_cons Tryz.underlying85 ⟨_, Tryz.type85, rfl, rfl, rfl⟩ nofun ?_
  refine TE.ok_cons Tryz.underlying86 ⟨_, Tryz.type86, rfl, rfl, rfl⟩ nofun ?_
  refine TE.ok_cons Tryz.underlying87 ⟨_, Tryz.type87, rfl, rfl, rfl⟩ nofun ?_
  refine TE.ok_cons Tryz.underlying88 ⟨_, Tryz.type88, rfl, rfl, rfl⟩ nofun ?_
  refine TE.ok_cons Tryz.underlying89 ⟨_, Tryz.type89, rfl, rfl, rfl⟩ nofun ?_
  refine TE.ok_cons Tryz.underlying90 ⟨_, Tryz.type90, rfl, rfl, rfl⟩ nofun ?_
  refine TE.ok_cons Tryz.underlying91 ⟨_, Tryz.type91, rfl, rfl, rfl⟩ nofun ?_
  refine TE.ok_cons Tryz.underlying92 ⟨Tryz.t92, Tryz.type92, rfl, rfl, rfl⟩ (fun _ => ⟨Tryz.stoodInHeld92, Tryz.eqGuardType92, fun fs h f hf => by cases h; revert f; decide⟩) ?_
  refine TE.ok_cons Tryz.underlying93 ⟨Tryz.t93, Tryz.type93, rfl, rfl, rfl⟩ (fun _ => ⟨Tryz.stoodInHeld93, Tryz.eqGuardType93, fun fs h f hf => by cases h; revert f; decide⟩) ?_
  refine TE.ok_cons Tryz.underlying94 ⟨_, Tryz.type94, rfl, rfl, rfl⟩ nofun ?_
  refine TE.ok_cons Tryz.underlying95 ⟨Tryz.t95, Tryz.type95, rfl, rfl, rfl⟩ (fun _ => ⟨Tryz.stoodInHeld95, Tryz.eqGuardType95, fun fs h f hf => by cases h; revert f; decide⟩) ?_
  refine TE.ok_cons Tryz.underlying96 ⟨Tryz.t96, Tryz.type96, rfl, rfl, rfl⟩ (fun _ => ⟨Tryz.stoodInHeld96, Tryz.eqGuardType96, fun fs h f hf => by cases h; revert f; decide⟩) ?_
  refine TE.ok_cons Tryz.underlying97 ⟨_, Tryz.type97, rfl, rfl, rfl⟩ nofun ?_
  refine TE.ok_cons Tryz.underlying98 ⟨_, Tryz.type98, rfl, rfl, rfl⟩ nofun ?_
  refine TE.ok_cons Tryz.underlying99 ⟨_, Tryz.type99, rfl, rfl, rfl⟩ nofun ?_
  refine TE.ok_cons Tryz.underlying100 ⟨_, Tryz.type100, rfl, rfl, rfl⟩ nofun ?_
  refine TE.ok_cons Tryz.underlying101 ⟨_, Tryz.type101, rfl, rfl, rfl⟩ nofun ?_
  refine TE.ok_cons Tryz.underlying102 ⟨_, Tryz.type102, rfl, rfl, rfl⟩ nofun ?_
  refine TE.ok_cons Tryz.underlying103 ⟨_, Tryz.type103, rfl, rfl, rfl⟩ nofun ?_
  refine TE.ok_cons Tryz.underlying104 ⟨_, Tryz.type104, rfl, rfl, rfl⟩ nofun ?_
  refine TE.ok_cons Tryz.underlying105 ⟨_, Tryz.type105, rfl, rfl, rfl⟩ nofun ?_
  refine TE.ok_cons Tryz.underlying106 ⟨_, Tryz.type106, rfl, rfl, rfl⟩ nofun ?_
  refine TE.ok_cons Tryz.underlying107 ⟨_, Tryz.type107, rfl, rfl, rfl⟩ nofun ?_
  refine TE.ok_cons Tryz.underlying108 ⟨_, Tryz.type108, rfl, rfl, rfl⟩ nofun ?_
  refine TE.ok_cons Tryz.underlying109 ⟨_, Tryz.type109, rfl, rfl, rfl⟩ nofun ?_
  refine TE.ok_cons Tryz.underlying110 ⟨_, Tryz.type110, rfl, rfl, rfl⟩ nofun ?_
  refine TE.ok_cons Tryz.underlying111 ⟨_, Tryz.type111, rfl, rfl, rfl⟩ nofun ?_
  refine TE.ok_cons Tryz.underlying112 ⟨_, Tryz.type112, rfl, rfl, rfl⟩ nofun ?_
  refine TE.ok_cons Tryz.underlying113 ⟨_, Tryz.type113, rfl, rfl, rfl⟩ nofun ?_
  refine TE.ok_cons Tryz.underlying114 ⟨_, Tryz.type114, rfl, rfl, rfl⟩ nofun ?_
  refine TE.ok_cons Tryz.underlying115 ⟨_, Tryz.type115, rfl, rfl, rfl⟩ nofun ?_
  refine TE.ok_cons Tryz.underlying116 ⟨_, Tryz.type116, rfl, rfl, rfl⟩ nofun ?_
  refine TE.ok_cons Tryz.underlying117 ⟨_, Tryz.type117, rfl, rfl, rfl⟩ nofun ?_
  refine TE.ok_cons Tryz.underlying118 ⟨_, Tryz.type118, rfl, rfl, rfl⟩ nofun ?_
  refine TE.ok_cons Tryz.underlying119 ⟨_, Tryz.type119, rfl, rfl, rfl⟩ nofun ?_
  refine TE.ok_cons Tryz.underlying120 ⟨_, Tryz.type120, rfl, rfl, rfl⟩ nofun ?_
  refine TE.ok_cons Tryz.underlying121 ⟨Tryz.t121, Tryz.type121, rfl, rfl, rfl⟩ (fun _ => ⟨Tryz.stoodInHeld121, Tryz.eqGuardType121, fun fs h f hf => by cases h; revert f; decide⟩) ?_
  refine TE.ok_cons Tryz.underlying122 ⟨Tryz.t122, Tryz.type122, rfl, rfl, rfl⟩ (fun _ => ⟨Tryz.stoodInHeld122, Tryz.eqGuardType122, fun fs h f hf => by cases h; revert f; decide⟩) ?_
  refine TE.ok_cons Tryz.underlying123 ⟨_, Tryz.type123, rfl, rfl, rfl⟩ nofun ?_
  refine TE.ok_cons Tryz.underlying124 ⟨_, Tryz.type124, rfl, rfl, rfl⟩ nofun ?_
  refine TE.ok_cons Tryz.underlying125 ⟨_, Tryz.type125, rfl, rfl, rfl⟩ nofun ?_
  refine TE.ok_cons Tryz.underlying126 ⟨_, Tryz.type126, rfl, rfl, rfl⟩ nofun ?_
  refine TE.ok_cons Tryz.underlying127 ⟨_, Tryz.type127, rfl, rfl, rfl⟩ nofun ?_
  refine TE.ok_cons Tryz.underlying128 ⟨_, Tryz.type128, rfl, rfl, rfl⟩ nofun ?_
  refine TE.ok_cons Tryz.underlying129 ⟨_, Tryz.type129, rfl, rfl, rfl⟩ nofun ?_
  refine TE.ok_cons Tryz.underlying130 ⟨_, Tryz.type130, rfl, rfl, rfl⟩ nofun ?_
  refine TE.ok_cons Tryz.underlying131 ⟨_, Tryz.type131, rfl, rfl, rfl⟩ nofun ?_
  refine TE.ok_cons Tryz.underlying132 ⟨_, Tryz.type132, rfl, rfl, rfl⟩ nofun ?_
  refine TE.ok_cons Tryz.underlying133 ⟨_, Tryz.type133, rfl, rfl, rfl⟩ nofun ?_
  refine TE.ok_cons Tryz.underlying134 ⟨_, Tryz.type134, rfl, rfl, rfl⟩ nofun ?_
  refine TE.ok_cons Tryz.underlying135 ⟨_, Tryz.type135, rfl, rfl, rfl⟩ nofun ?_
  refine TE.ok_cons Tryz.underlying136 ⟨_, Tryz.type136, rfl, rfl, rfl⟩ nofun ?_
  refine TE.ok_cons Tryz.underlying137 ⟨_, Tryz.type137, rfl, rfl, rfl⟩ nofun ?_
  refine TE.ok_cons Tryz.underlying138 ⟨_, Tryz.type138, rfl, rfl, rfl⟩ nofun ?_
  refine TE.ok_cons Tryz.underlying139 ⟨_, Tryz.type139, rfl, rfl, rfl⟩ nofun ?_
  refine TE.ok_cons Tryz.underlying140 ⟨_, Tryz.type140, rfl, rfl, rfl⟩ nofun ?_
  refine TE.ok_cons Tryz.underlying141 ⟨_, Tryz.type141, rfl, rfl, rfl⟩ nofun ?_
  refine TE.ok_cons Tryz.underlying142 ⟨_, Tryz.type142, rfl, rfl, rfl⟩ nofun ?_
  refine TE.ok_cons Tryz.underlying143 ⟨_, Tryz.type143, rfl, rfl, rfl⟩ nofun ?_
  refine TE.ok_cons Tryz.underlying144 ⟨_, Tryz.type144, rfl, rfl, rfl⟩ nofun ?_
  refine TE.ok_cons Tryz.underlying145 ⟨_, Tryz.type145, rfl, rfl, rfl⟩ nofun ?_
  refine TE.ok_cons Tryz.underlying146 ⟨_, Tryz.type146, rfl, rfl, rfl⟩ nofun ?_
  refine TE.ok_cons Tryz.underlying147 ⟨_, Tryz.type147, rfl, rfl, rfl⟩ nofun ?_
  refine TE.ok_cons Tryz.underlying148 ⟨_, Tryz.type148, rfl, rfl, rfl⟩ nofun ?_
  refine TE.ok_cons Tryz.underlying149 ⟨_, Tryz.type149, rfl, rfl, rfl⟩ nofun ?_
  refine TE.ok_cons Tryz.underlying150 ⟨_, Tryz.type150, rfl, rfl, rfl⟩ nofun ?_
  refine TE.ok_cons Tryz.underlying151 ⟨_, Tryz.type151, rfl, rfl, rfl⟩ nofun ?_
  refine TE.ok_cons Tryz.underlying152 ⟨_, Tryz.type152, rfl, rfl, rfl⟩ nofun ?_
  refine TE.ok_cons Tryz.underlying153 ⟨_, Tryz.type153, rfl, rfl, rfl⟩ nofun ?_
  refine TE.ok_cons Tryz.underlying154 ⟨_, Tryz.type154, rfl, rfl, rfl⟩ nofun ?_
  refine TE.ok_cons Tryz.underlying155 ⟨_, Tryz.type155, rfl, rfl, rfl⟩ nofun ?_
  refine TE.ok_cons Tryz.underlying156 ⟨_, Tryz.type156, rfl, rfl, rfl⟩ nofun ?_
  refine TE.ok_cons Tryz.underlying157 ⟨_, Tryz.type157, rfl, rfl, rfl⟩ nofun ?_
  refine TE.ok_cons Tryz.underlying158 ⟨_, Tryz.type158, rfl, rfl, rfl⟩ nofun ?_
  refine TE.ok_cons Tryz.underlying159 ⟨_, Tryz.type159, rfl, rfl, rfl⟩ nofun ?_
  refine TE.ok_cons Tryz.underlying160 ⟨_, Tryz.type160, rfl, rfl, rfl⟩ nofun ?_
  refine TE.ok_cons Tryz.underlying161 ⟨_, Tryz.type161, rfl, rfl, rfl⟩ nofun ?_
  refine TE.ok_cons Tryz.underlying162 ⟨_, Tryz.type162, rfl, rfl, rfl⟩ nofun ?_
  refine TE.ok_cons Tryz.underlying163 ⟨_, Tryz.type163, rfl, rfl, rfl⟩ nofun ?_
  refine TE.ok_cons Tryz.underlying164 ⟨_, Tryz.type164, rfl, rfl, rfl⟩ nofun ?_
  refine TE.ok_cons Tryz.underlying165 ⟨_, Tryz.type165, rfl, rfl, rfl⟩ nofun ?_
  refine TE.ok_cons Tryz.underlying166 ⟨_, Tryz.type166, rfl, rfl, rfl⟩ nofun ?_
  refine TE.ok_cons Tryz.underlying167 ⟨_, Tryz.type167, rfl, rfl, rfl⟩ nofun ?_
  refine TE.ok_cons Tryz.underlying168 ⟨_, Tryz.type168, rfl, rfl, rfl⟩ nofun ?_
  refine TE.ok_cons Tryz.underlying169 ⟨_, Tryz.type169, rfl, rfl, rfl⟩ nofun ?_
  refine TE.ok_cons Tryz.underlying170 ⟨_, Tryz.type170, rfl, rfl, rfl⟩ nofun ?_
  refine TE.ok_cons Tryz.underlying171 ⟨_, Tryz.type171, rfl, rfl, rfl⟩ nofun ?_
  refine TE.ok_cons Tryz.underlying172 ⟨_, Tryz.type172, rfl, rfl, rfl⟩ nofun ?_
  refine TE.ok_cons Tryz.underlying176 ⟨_, Tryz.type176, rfl, rfl, rfl⟩ nofun ?_
  refine TE.ok_cons Tryz.underlying177 ⟨_, Tryz.type177, rfl, rfl, rfl⟩ nofun ?_
  refine TE.ok_cons Tryz.underlying178 ⟨_, Tryz.type178, rfl, rfl, rfl⟩ nofun ?_
  refine TE.ok_cons Tryz.underlying179 ⟨_, Tryz.type179, rfl, rfl, rfl⟩ nofun ?_
  refine TE.ok_cons Tryz.underlying180 ⟨_, Tryz.type180, rfl, rfl, rfl⟩ nofun ?_
  refine TE.ok_cons Tryz.underlying181 ⟨_, Tryz.type181, rfl, rfl, rfl⟩ nofun ?_
  refine TE.ok_cons Tryz.underlying182 ⟨_, Tryz.type182, rfl, rfl, rfl⟩ nofun ?_
  refine TE.ok_cons Tryz.underlying183 ⟨_, Tryz.type183, rfl, rfl, rfl⟩ nofun ?_
  refine TE.ok_cons Tryz.underlying184 ⟨_, Tryz.type184, rfl, rfl, rfl⟩ nofun ?_
  refine TE.ok_cons Tryz.underlying185 ⟨_, Tryz.type185, rfl, rfl, rfl⟩ nofun ?_
  refine TE.ok_cons Tryz.underlying186 ⟨_, Tryz.type186, rfl, rfl, rfl⟩ nofun ?_
  refine TE.ok_cons Tryz.underlying187 ⟨_, Tryz.type187, rfl, rfl, rfl⟩ nofun ?_
  refine TE.ok_cons Tryz.underlying188 ⟨_, Tryz.type188, rfl, rfl, rfl⟩ nofun ?_
  refine TE.ok_cons Tryz.underlying189 ⟨_, Tryz.type189, rfl, rfl, rfl⟩ nofun ?_
  refine TE.ok_cons Tryz.underlying190 ⟨_, Tryz.type190, rfl, rfl, rfl⟩ nofun ?_
  refine TE.ok_cons Tryz.underlying191 ⟨_, Tryz.type191, rfl, rfl, rfl⟩ nofun ?_
  refine TE.ok_cons Tryz.underlying192 ⟨_, Tryz.type192, rfl, rfl, rfl⟩ nofun ?_
  refine TE.ok_cons Tryz.underlying193 ⟨_, Tryz.type193, rfl, rfl, rfl⟩ nofun ?_
  refine TE.ok_cons Tryz.underlying194 ⟨_, Tryz.type194, rfl, rfl, rfl⟩ nofun ?_
  refine TE.ok_cons Tryz.underlying195 ⟨_, Tryz.type195, rfl, rfl, rfl⟩ nofun ?_
  refine TE.ok_cons Tryz.underlying196 ⟨_, Tryz.type196, rfl, rfl, rfl⟩ nofun ?_
  refine TE.ok_cons Tryz.underlying197 ⟨_, Tryz.type197, rfl, rfl, rfl⟩ nofun ?_
  refine TE.ok_cons Tryz.underlying198 ⟨_, Tryz.type198, rfl, rfl, rfl⟩ nofun ?_
  refine TE.ok_cons Tryz.underlying199 ⟨_, Tryz.type199, rfl, rfl, rfl⟩ nofun ?_
  refine TE.ok_cons Tryz.underlying200 ⟨_, Tryz.type200, rfl, rfl, rfl⟩ nofun ?_
  refine TE.ok_cons Tryz.underlying201 ⟨_, Tryz.type201, rfl, rfl, rfl⟩ nofun ?_
  refine TE.ok_cons Tryz.underlying202 ⟨_, Tryz.type202, rfl, rfl, rfl⟩ nofun ?_
  refine TE.ok_cons Tryz.underlying203 ⟨_, Tryz.type203, rfl, rfl, rfl⟩ nofun ?_
  refine TE.ok_cons Tryz.underlying205 ⟨Tryz.t205, Tryz.type205, rfl, rfl, rfl⟩ (fun _ => ⟨Tryz.stoodInHeld205, Tryz.eqGuardType205, fun fs h f hf => by cases h; revert f; decide⟩) ?_
  refine TE.ok_cons Tryz.underlying206 ⟨Tryz.t206, Tryz.type206, rfl, rfl, rfl⟩ (fun _ => ⟨Tryz.stoodInHeld206, Tryz.eqGuardType206, fun fs h f hf => by cases h; revert f; decide⟩) ?_
  refine TE.ok_cons Tryz.underlying207 ⟨_, Tryz.type207, rfl, rfl, rfl⟩ nofun ?_
  refine TE.ok_cons Tryz.underlying208 ⟨_, Tryz.type208, rfl, rfl, rfl⟩ nofun ?_
  refine TE.ok_cons Tryz.underlying209 ⟨_, Tryz.type209, rfl, rfl, rfl⟩ nofun ?_
  refine TE.ok_cons Tryz.underlying210 ⟨_, Tryz.type210, rfl, rfl, rfl⟩ nofun ?_
  refine TE.ok_cons Tryz.underlying211 ⟨_, Tryz.type211, rfl, rfl, rfl⟩ nofun ?_
  refine TE.ok_cons Tryz.underlying212 ⟨_, Tryz.type212, rfl, rfl, rfl⟩ nofun ?_
  refine TE.ok_cons Tryz.underlying213 ⟨_, Tryz.type213, rfl, rfl, rfl⟩ nofun ?_
  refine TE.ok_cons Tryz.underlying214 ⟨_, Tryz.type214, rfl, rfl, rfl⟩ nofun ?_
  refine TE.ok_cons Tryz.underlying215 ⟨_, Tryz.type215, rfl, rfl, rfl⟩ nofun ?_
  refine TE.ok_cons Tryz.underlying216 ⟨_, Tryz.type216, rfl, rfl, rfl⟩ nofun ?_
  refine TE.ok_cons Tryz.underlying217 ⟨_, Tryz.type217, rfl, rfl, rfl⟩ nofun ?_
  refine TE.ok_cons Tryz.underlying218 ⟨Tryz.t218, Tryz.type218, rfl, rfl, rfl⟩ (fun _ => ⟨Tryz.stoodInHeld218, Tryz.eqGuardType218, fun fs h f hf => by cases h; revert f; decide⟩) ?_
  refine TE.ok_cons Tryz.underlying219 ⟨Tryz.t219, Tryz.type219, rfl, rfl, rfl⟩ (fun _ => ⟨Tryz.stoodInHeld219, Tryz.eqGuardType219, fun fs h f hf => by cases h; revert f; decide⟩) ?_
  refine TE.ok_cons Tryz.underlying220 ⟨_, Tryz.type220, rfl, rfl, rfl⟩ nofun ?_
  refine TE.ok_cons Tryz.underlying221 ⟨_, Tryz.type221, rfl, rfl, rfl⟩ nofun ?_
  refine TE.ok_cons Tryz.underlying222 ⟨_, Tryz.type222, rfl, rfl, rfl⟩ nofun ?_
  refine TE.ok_cons Tryz.underlying223 ⟨_, Tryz.type223, rfl, rfl, rfl⟩ nofun ?_
  refine TE.ok_cons Tryz.underlying224 ⟨_, Tryz.type224, rfl, rfl, rfl⟩ nofun ?_
  refine TE.ok_cons Tryz.underlying225 ⟨_, Tryz.type225, rfl, rfl, rfl⟩ nofun ?_
  refine TE.ok_cons Tryz.underlying226 ⟨_, Tryz.type226, rfl, rfl, rfl⟩ nofun ?_
  refine TE.ok_cons Tryz.underlying227 ⟨_, Tryz.type227, rfl, rfl, rfl⟩ nofun ?_
  refine TE.ok_cons Tryz.underlying228 ⟨_, Tryz.type228, rfl, rfl, rfl⟩ nofun ?_
  refine TE.ok_cons Tryz.underlying229 ⟨_, Tryz.type229, rfl, rfl, rfl⟩ nofun ?_
  refine TE.ok_cons Tryz.underlying230 ⟨_, Tryz.type230, rfl, rfl, rfl⟩ nofun ?_
  refine TE.ok_cons Tryz.underlying231 ⟨_, Tryz.type231, rfl, rfl, rfl⟩ nofun ?_
  refine TE.ok_cons Tryz.underlying232 ⟨_, Tryz.type232, rfl, rfl, rfl⟩ nofun ?_
  refine TE.ok_cons Tryz.underlying233 ⟨_, Tryz.type233, rfl, rfl, rfl⟩ nofun ?_
  refine TE.ok_cons Tryz.underlying234 ⟨_, Tryz.type234, rfl, rfl, rfl⟩ nofun ?_
  refine TE.ok_cons Tryz.underlying235 ⟨_, Tryz.type235, rfl, rfl, rfl⟩ nofun ?_
  refine TE.ok_cons Tryz.underlying236 ⟨_, Tryz.type236, rfl, rfl, rfl⟩ nofun ?_
  refine TE.ok_cons Tryz.underlying237 ⟨_, Tryz.type237, rfl, rfl, rfl⟩ nofun ?_
  refine TE.ok_cons Tryz.underlying238 ⟨_, Tryz.type238, rfl, rfl, rfl⟩ nofun ?_
  refine TE.ok_cons Tryz.underlying239 ⟨_, Tryz.type239, rfl, rfl, rfl⟩ nofun ?_
  refine TE.ok_cons Tryz.underlying240 ⟨_, Tryz.type240, rfl, rfl, rfl⟩ nofun ?_
  refine TE.ok_cons Tryz.underlying241 ⟨_, Tryz.type241, rfl, rfl, rfl⟩ nofun ?_
  refine TE.ok_cons Tryz.underlying242 ⟨_, Tryz.type242, rfl, rfl, rfl⟩ nofun ?_
  refine TE.ok_cons Tryz.underlying243 ⟨_, Tryz.type243, rfl, rfl, rfl⟩ nofun ?_
  refine TE.ok_cons Tryz.underlying244 ⟨_, Tryz.type244, rfl, rfl, rfl⟩ nofun ?_
  exact TE.ok_nil
set_option maxRecDepth 100000 in
theorem te_one : ∀ t ti, lk te t = some ti → isAggD ti.desc = false → ti.sz = 1 := TE.one_of (by rfl)
end Go.Eng
namespace Go.Eng
open Go.Proofs
theorem prg {C : Ctx} (hP : C.P = Tryz.prog) : Prg C te := ⟨hP ▸ te_ok, te_one⟩
end Go.Eng
namespace Go.Eng
structure PreC {α : Type} (c : α → α → Int) : Prop where
  neg : ∀ x y, c y x < 0 ↔ 0 < c x y
  trans : ∀ x y z, c x y ≤ 0 → c y z ≤ 0 → c x z ≤ 0
namespace PreC
variable {α β : Type} {c : α → α → Int}
theorem self (h : PreC c) (x : α) : c x x = 0 := by
  have := h.neg x x
  omega
theorem lt_le (h : PreC c) {x y z : α} (a : c x y < 0) (b : c y z ≤ 0) : c x z < 0 := by
  have h1 := h.trans x y z (by omega) b
  have h2 := h.neg x z
  have h3 := h.neg z x
  rcases Int.lt_or_eq_of_le h1 with h' | h'
  · exact h'
  · have h4 : c z x ≤ 0 := by omega
    have h5 := h.trans y z x b h4
    have := h.neg y x
    omega
theorem le_lt (h : PreC c) {x y z : α} (a : c x y ≤ 0) (b : c y z < 0) : c x z < 0 := by
  have h1 := h.trans x y z a (by omega)
  have h2 := h.neg x z
  have h3 := h.neg z x
  rcases Int.lt_or_eq_of_le h1 with h' | h'
  · exact h'
  · have h4 : c z x ≤ 0 := by omega
    have h5 := h.trans z x y h4 a
    have := h.neg z y
    omega
theorem lt_trans (h : PreC c) {x y z : α} (a : c x y < 0) (b : c y z < 0) : c x z < 0 := h.lt_le a (by omega)
theorem eq_symm (h : PreC c) {x y : α} (a : c x y = 0) : c y x = 0 := by
  have h1 := h.neg x y
  have h2 := h.neg y x
  omega
theorem comap (h : PreC c) (f : β → α) : PreC fun x y => c (f x) (f y) := ⟨fun _x _y => h.neg _ _, fun _x _y _z => h.trans _ _ _⟩
end PreC
def orL : List Int → Int
  | [] => 0
  | x :: l => bif decide (x = 0) then orL l else x
theorem PreC.nil {α : Type} : PreC fun (_ _ : α) => orL [] := ⟨fun _ _ => by simp [orL], fun _ _ _ _ _ => by simp [orL]⟩
theorem PreC.or {α : Type} {c : α → α → Int} {d : α → α → List Int} (h : PreC c) (k : PreC fun x y => orL (d x y)) : PreC fun x y => orL (c x y :: d x y) := by
  have e : ∀ x y, orL (c x y :: d x y) = if c x y = 0 then orL (d x y) else c x y := fun x y => by
    rw [orL]; by_cases q : c x y = 0 <;> simp [q]
  refine ⟨fun x y => ?_, fun x y z h1 h2 => ?_⟩
  · rw [e, e]
    have h1 := h.neg x y
    have h2 := h.neg y x
    have h3 := k.neg x y
    by_cases q : c x y = 0
    · rw [if_pos q, if_pos (h.eq_symm q)]; exact h3
    · rw [if_neg q, if_neg (fun q' => q (h.eq_symm q'))]; exact h1
  · rw [e] at h1 h2 ⊢
    by_cases q : c x y = 0
    · rw [if_pos q] at h1
      by_cases q' : c y z = 0
      · rw [if_pos q'] at h2
        have a1 := h.trans x y z (by omega) (by omega)
        have a2 := h.trans z y x (by have := h.eq_symm q'; omega) (by have := h.eq_symm q; omega)
        have a3 := h.neg z x
        rw [if_pos (by omega)]
        exact k.trans x y z h1 h2
      · rw [if_neg q'] at h2
        have a1 := h.le_lt (x := x) (y := y) (z := z) (by omega) (by omega)
        rw [if_neg (by omega)]; exact Int.le_of_lt a1
    · rw [if_neg q] at h1
      have : c y z ≤ 0 := by
        by_cases q' : c y z = 0
        · omega
        · rw [if_neg q'] at h2; exact h2
      have a1 := h.lt_le (x := x) (y := y) (z := z) (by omega) this
      rw [if_neg (by omega)]; exact Int.le_of_lt a1
theorem orL_zero {x : Int} {l : List Int} : orL (x :: l) = 0 ↔ x = 0 ∧ orL l = 0 := by
  rw [orL]
  by_cases h : x = 0 <;> simp [h]
def cmpI (a b : Int) : Int := bif decide (a < b) then -1 else bif decide (b < a) then 1 else 0
def cmpS (a b : List UInt8) : Int := bif Op.bytesLess a b then -1 else bif Op.bytesLess b a then 1 else 0
theorem cmpI_val (a b : Int) : (a < b ∧ cmpI a b = -1) ∨ (a = b ∧ cmpI a b = 0) ∨ (b < a ∧ cmpI a b = 1) := by
  unfold cmpI
  by_cases h : a < b
  · simp [h]
  · by_cases h' : b < a
    · simp [h, h']
    · have : a = b := by omega
      simp [this]
theorem cmpI_preC : PreC cmpI := by
  refine ⟨fun x y => ?_, fun x y z => ?_⟩
  · have := cmpI_val x y; have := cmpI_val y x; omega
  · have := cmpI_val x y; have := cmpI_val y z; have := cmpI_val x z; omega
theorem cmpI_zero {a b : Int} : cmpI a b = 0 ↔ a = b := by have := cmpI_val a b; omega
theorem bl_self : ∀ a : List UInt8, Op.bytesLess a a = false
  | [] => rfl
  | a :: x => by simp [Op.bytesLess, bl_self x]
theorem bl_tri : ∀ a b : List UInt8, Op.bytesLess a b = true ∨ a = b ∨ Op.bytesLess b a = true
  | [], [] => .inr (.inl rfl)
  | [], _ :: _ => .inl rfl
  | _ :: _, [] => .inr (.inr rfl)
  | a :: x, b :: y => by
    simp only [Op.bytesLess, Bool.or_eq_true, Bool.and_eq_true, decide_eq_true_eq, beq_iff_eq]
    rcases bl_tri x y with h | h | h
    · by_cases e : a = b
      · exact .inl (.inr ⟨e, h⟩)
      · rcases Nat.lt_or_gt_of_ne (fun q => e (UInt8.toNat_inj.1 q)) with q | q
        · exact .inl (.inl q)
        · exact .inr (.inr (.inl q))
    · by_cases e : a = b
      · exact .inr (.inl (by rw [e, h]))
      · rcases Nat.lt_or_gt_of_ne (fun q => e (UInt8.toNat_inj.1 q)) with q | q
        · exact .inl (.inl q)
        · exact .inr (.inr (.inl q))
    · by_cases e : a = b
      · exact .inr (.inr (.inr ⟨e.symm, h⟩))
      · rcases Nat.lt_or_gt_of_ne (fun q => e (UInt8.toNat_inj.1 q)) with q | q
        · exact .inl (.inl q)
        · exact .inr (.inr (.inl q))
theorem bl_trans : ∀ a b c : List UInt8, Op.bytesLess a b = true → Op.bytesLess b c = true → Op.bytesLess a c = true
  | _, [], _, h, _ => by cases ‹List UInt8› <;> simp [Op.bytesLess] at h
  | _, _ :: _, [], _, h => by simp [Op.bytesLess] at h
  | [], _ :: _, _ :: _, _, _ => rfl
  | a :: x, b :: y, c :: z, h, k => by
    simp only [Op.bytesLess, Bool.or_eq_true, Bool.and_eq_true, decide_eq_true_eq, beq_iff_eq] at h k ⊢
    rcases h with h | ⟨rfl, h⟩
    · rcases k with k | ⟨rfl, k⟩
      · exact .inl (UInt8.lt_trans h k)
      · exact .inl h
    · rcases k with k | ⟨rfl, k⟩
      · exact .inl k
      · exact .inr ⟨rfl, bl_trans x y z h k⟩
theorem bl_asymm {a b : List UInt8} (h : Op.bytesLess a b = true) : Op.bytesLess b a = false := by
  cases q : Op.bytesLess b a with
  | false => rfl
  | true => have := bl_trans a b a h q; rw [bl_self] at this; cases this
theorem cmpS_val (a b : List UInt8) : (Op.bytesLess a b = true ∧ cmpS a b = -1) ∨ (a = b ∧ cmpS a b = 0) ∨ (Op.bytesLess b a = true ∧ cmpS a b = 1) := by
  unfold cmpS
  rcases bl_tri a b with h | h | h
  · exact .inl ⟨h, by rw [h]; rfl⟩
  · subst h; exact .inr (.inl ⟨rfl, by rw [bl_self]; rfl⟩)
  · exact .inr (.inr ⟨h, by rw [bl_asymm h, h]; rfl⟩)
theorem cmpS_zero {a b : List UInt8} : cmpS a b = 0 ↔ a = b := by
  constructor
  · intro h
    rcases cmpS_val a b with ⟨_, q⟩ | ⟨q, _⟩ | ⟨_, q⟩
    · omega
    · exact q
    · omega
  · rintro rfl
    unfold cmpS
    rw [bl_self]; rfl
theorem cmpS_neg {a b : List UInt8} : cmpS a b < 0 ↔ Op.bytesLess a b = true := by
  rcases cmpS_val a b with ⟨h, q⟩ | ⟨h, q⟩ | ⟨h, q⟩
  · exact ⟨fun _ => h, fun _ => by omega⟩
  · subst h; rw [bl_self, q]; simp
  · rw [bl_asymm h, q]; simp
theorem cmpS_preC : PreC cmpS := by
  refine ⟨fun x y => ?_, fun x y z h1 h2 => ?_⟩
  · rw [cmpS_neg]
    rcases cmpS_val x y with ⟨h, q⟩ | ⟨h, q⟩ | ⟨h, q⟩
    · rw [bl_asymm h, q]; simp
    · subst h; rw [bl_self, q]; simp
    · rw [h, q]; simp
  · rcases cmpS_val x y with ⟨h, q⟩ | ⟨h, q⟩ | ⟨h, q⟩
    · rcases cmpS_val y z with ⟨h', q'⟩ | ⟨h', q'⟩ | ⟨h', q'⟩
      · have := cmpS_neg.2 (bl_trans x y z h h'); omega
      · subst h'; omega
      · omega
    · subst h; exact h2
    · omega
def Asc {α : Type} (c : α → α → Int) (l : List α) : Prop := l.Pairwise fun x y => c x y < 0
theorem Asc.uniq {α : Type} {c : α → α → Int} (hc : PreC c) : ∀ {l l' : List α}, Asc c l → Asc c l' → (∀ x, x ∈ l ↔ x ∈ l') → l = l'
  | [], [], _, _, _ => rfl
  | [], y :: l', _, _, h => by have := (h y).2 (List.mem_cons_self ..); cases this
  | x :: l, [], _, _, h => by have := (h x).1 (List.mem_cons_self ..); cases this
  | x :: l, y :: l', h1, h2, h => by
    obtain ⟨a1, a2⟩ := List.pairwise_cons.1 h1
    obtain ⟨b1, b2⟩ := List.pairwise_cons.1 h2
    have e : x = y := by
      rcases List.mem_cons.1 ((h x).1 (List.mem_cons_self ..)) with q | q
      · exact q
      · rcases List.mem_cons.1 ((h y).2 (List.mem_cons_self ..)) with q' | q'
        · exact q'.symm
        · have e1 := b1 x q
          have e2 := a1 y q'
          have := hc.lt_trans e1 e2
          rw [hc.self] at this; omega
    subst e
    have irr : ∀ {l : List α}, (∀ z, z ∈ l → c x z < 0) → x ∉ l := fun hl hx => by have := hl x hx; rw [hc.self] at this; omega
    rw [Asc.uniq hc a2 b2 fun z => ⟨fun hz => ?_, fun hz => ?_⟩]
    · rcases List.mem_cons.1 ((h z).1 (List.mem_cons_of_mem _ hz)) with q | q
      · exact absurd (q ▸ hz) (irr a1)
      · exact q
    · rcases List.mem_cons.1 ((h z).2 (List.mem_cons_of_mem _ hz)) with q | q
      · exact absurd (q ▸ hz) (irr b1)
      · exact q
end Go.Eng
