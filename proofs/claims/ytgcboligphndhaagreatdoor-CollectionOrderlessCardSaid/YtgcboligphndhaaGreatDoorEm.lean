/- The table of types. Printed by gen_te.py. -/
import Derived.Test.YtgcboligphndhaaGreatDoorEe
import Derived.Test.YtgcboligphndhaaGreatDoorProg
namespace Go.Eng
open Go.Proofs
def te : TE := [
  (0, ⟨.tuple #[], 1, 0, .tuple #[], false⟩),
  (1, ⟨.func #[] #[] false, 1, 8, .nilFunc, false⟩),
  (2, ⟨.int .i64, 1, 8, .int .i64 0, false⟩),
  (3, ⟨.int .i64, 1, 8, .int .i64 0, false⟩),
  (4, ⟨.bool, 1, 1, .bool false, false⟩),
  (5, ⟨.int .u8, 1, 1, .int .u8 0, false⟩),
  (6, ⟨.int .u8, 1, 1, .int .u8 0, false⟩),
  (7, ⟨.struct #[⟨ "x", 2, 0, false, "", "runtime", 0⟩, ⟨ "y", 3, 1, false, "", "runtime", 8⟩, ⟨ "signed", 4, 2, false, "", "runtime", 16⟩, ⟨ "code", 6, 3, false, "", "runtime", 17⟩], 4, 24, .agg #[.int .i64 0, .int .i64 0, .bool false, .int .u8 0], true⟩),
  (8, ⟨.struct #[⟨ "x", 2, 0, false, "", "runtime", 0⟩, ⟨ "y", 3, 1, false, "", "runtime", 8⟩, ⟨ "signed", 4, 2, false, "", "runtime", 16⟩, ⟨ "code", 6, 3, false, "", "runtime", 17⟩], 4, 24, .agg #[.int .i64 0, .int .i64 0, .bool false, .int .u8 0], true⟩),
  (9, ⟨.string, 1, 16, .string { data := #[] }, false⟩),
  (10, ⟨.string, 1, 16, .string { data := #[] }, false⟩),
  (11, ⟨.string, 1, 16, .string { data := #[] }, false⟩),
  (12, ⟨.int .u64, 1, 8, .int .u64 0, false⟩),
  (13, ⟨.struct #[⟨ "msg", 9, 0, false, "", "runtime", 0⟩, ⟨ "addr", 12, 1, false, "", "runtime", 16⟩], 2, 24, .agg #[.string { data := #[] }, .int .u64 0], false⟩),
  (14, ⟨.struct #[⟨ "msg", 9, 0, false, "", "runtime", 0⟩, ⟨ "addr", 12, 1, false, "", "runtime", 16⟩], 2, 24, .agg #[.string { data := #[] }, .int .u64 0], false⟩),
  (15, ⟨.pointer 304, 1, 8, .pointer none, false⟩),
  (16, ⟨.pointer 307, 1, 8, .pointer none, false⟩),
  (17, ⟨.pointer 315, 1, 8, .pointer none, false⟩),
  (18, ⟨.struct #[⟨ "typ", 17, 0, false, "", "internal/runtime/maps", 0⟩], 1, 8, .agg #[.pointer none], false⟩),
  (19, ⟨.struct #[⟨ "typ", 17, 0, false, "", "internal/runtime/maps", 0⟩], 1, 8, .agg #[.pointer none], false⟩),
  (20, ⟨.interface #[], 1, 16, .nilIface, false⟩),
  (21, ⟨.int .i32, 1, 4, .int .i32 0, false⟩),
  (22, ⟨.slice 40, 1, 24, .slice none 0 0, false⟩),
  (23, ⟨.slice 3, 1, 24, .slice none 0 0, false⟩),
  (24, ⟨.func #[25] #[22] false, 1, 8, .nilFunc, false⟩),
  (25, ⟨.pointer 27, 1, 8, .pointer none, false⟩),
  (26, ⟨.struct #[⟨ "L", 23, 0, false, "", "", 0⟩, ⟨ "At", 3, 1, false, "", "", 24⟩], 2, 32, .agg #[.slice none 0 0, .int .i64 0], true⟩),
  (27, ⟨.struct #[⟨ "L", 23, 0, false, "", "", 0⟩, ⟨ "At", 3, 1, false, "", "", 24⟩], 2, 32, .agg #[.slice none 0 0, .int .i64 0], true⟩),
  (28, ⟨.func #[22] #[22] false, 1, 8, .nilFunc, false⟩),
  (29, ⟨.func #[30, 30] #[4] false, 1, 8, .nilFunc, false⟩),
  (30, ⟨.slice 83, 1, 24, .slice none 0 0, false⟩),
  (31, ⟨.func #[22] #[30] false, 1, 8, .nilFunc, false⟩),
  (32, ⟨.func #[] #[4] false, 1, 8, .nilFunc, false⟩),
  (33, ⟨.func #[22, 23] #[4] false, 1, 8, .nilFunc, false⟩),
  (34, ⟨.func #[25, 22] #[22] false, 1, 8, .nilFunc, false⟩),
  (35, ⟨.struct #[⟨ "Outlet", 9, 0, false, "", "", 0⟩, ⟨ "Product", 9, 1, false, "", "", 16⟩, ⟨ "Period", 3, 2, false, "", "", 32⟩, ⟨ "Day", 3, 3, false, "", "", 40⟩, ⟨ "Status", 3, 4, false, "", "", 48⟩, ⟨ "Price", 2, 5, false, "", "", 56⟩, ⟨ "Replacement", 9, 6, false, "", "", 64⟩], 7, 80, .agg #[.string { data := #[] }, .string { data := #[] }, .int .i64 0, .int .i64 0, .int .i64 0, .int .i64 0, .string { data := #[] }], true⟩),
  (36, ⟨.struct #[⟨ "Outlet", 9, 0, false, "", "", 0⟩, ⟨ "Product", 9, 1, false, "", "", 16⟩, ⟨ "Period", 3, 2, false, "", "", 32⟩, ⟨ "Day", 3, 3, false, "", "", 40⟩, ⟨ "Status", 3, 4, false, "", "", 48⟩, ⟨ "Price", 2, 5, false, "", "", 56⟩, ⟨ "Replacement", 9, 6, false, "", "", 64⟩], 7, 80, .agg #[.string { data := #[] }, .string { data := #[] }, .int .i64 0, .int .i64 0, .int .i64 0, .int .i64 0, .string { data := #[] }], true⟩),
  (37, ⟨.struct #[⟨ "Outlet", 9, 0, false, "", "", 0⟩, ⟨ "Product", 9, 1, false, "", "", 16⟩, ⟨ "Period", 3, 2, false, "", "", 32⟩, ⟨ "Device", 9, 3, false, "", "", 40⟩, ⟨ "Number", 3, 4, false, "", "", 56⟩], 5, 64, .agg #[.string { data := #[] }, .string { data := #[] }, .int .i64 0, .string { data := #[] }, .int .i64 0], true⟩),
  (38, ⟨.struct #[⟨ "Outlet", 9, 0, false, "", "", 0⟩, ⟨ "Product", 9, 1, false, "", "", 16⟩, ⟨ "Period", 3, 2, false, "", "", 32⟩, ⟨ "Device", 9, 3, false, "", "", 40⟩, ⟨ "Number", 3, 4, false, "", "", 56⟩], 5, 64, .agg #[.string { data := #[] }, .string { data := #[] }, .int .i64 0, .string { data := #[] }, .int .i64 0], true⟩),
  (39, ⟨.struct #[⟨ "Device", 9, 0, false, "", "", 0⟩, ⟨ "Sequence", 3, 1, false, "", "", 16⟩, ⟨ "Kind", 3, 2, false, "", "", 24⟩, ⟨ "Visit", 36, 3, false, "", "", 32⟩, ⟨ "Decision", 38, 10, false, "", "", 112⟩], 15, 176, .agg #[.string { data := #[] }, .int .i64 0, .int .i64 0, .string { data := #[] }, .string { data := #[] }, .int .i64 0, .int .i64 0, .int .i64 0, .int .i64 0, .string { data := #[] }, .string { data := #[] }, .string { data := #[] }, .int .i64 0, .string { data := #[] }, .int .i64 0], true⟩),
  (40, ⟨.struct #[⟨ "Device", 9, 0, false, "", "", 0⟩, ⟨ "Sequence", 3, 1, false, "", "", 16⟩, ⟨ "Kind", 3, 2, false, "", "", 24⟩, ⟨ "Visit", 36, 3, false, "", "", 32⟩, ⟨ "Decision", 38, 10, false, "", "", 112⟩], 15, 176, .agg #[.string { data := #[] }, .int .i64 0, .int .i64 0, .string { data := #[] }, .string { data := #[] }, .int .i64 0, .int .i64 0, .int .i64 0, .int .i64 0, .string { data := #[] }, .string { data := #[] }, .string { data := #[] }, .int .i64 0, .string { data := #[] }, .int .i64 0], true⟩),
  (41, ⟨.tuple #[36, 3], 1, 0, .tuple #[.agg #[.string { data := #[] }, .string { data := #[] }, .int .i64 0, .int .i64 0, .int .i64 0, .int .i64 0, .string { data := #[] }], .int .i64 0], false⟩),
  (42, ⟨.func #[22, 9, 9, 3] #[36, 3] false, 1, 8, .nilFunc, false⟩),
  (43, ⟨.func #[22, 22] #[4] false, 1, 8, .nilFunc, false⟩),
  (44, ⟨.func #[22, 9, 9, 3] #[22] false, 1, 8, .nilFunc, false⟩),
  (45, ⟨.func #[23] #[4] false, 1, 8, .nilFunc, false⟩),
  (46, ⟨.slice 61, 1, 24, .slice none 0 0, false⟩),
  (47, ⟨.slice 97, 1, 24, .slice none 0 0, false⟩),
  (48, ⟨.struct #[⟨ "ID", 9, 0, false, "", "", 0⟩, ⟨ "Version", 3, 1, false, "", "", 16⟩, ⟨ "Received", 3, 2, false, "", "", 24⟩, ⟨ "Kind", 3, 3, false, "", "", 32⟩, ⟨ "Messages", 22, 4, false, "", "", 40⟩, ⟨ "Rows", 46, 5, false, "", "", 64⟩, ⟨ "Rates", 47, 6, false, "", "", 88⟩], 7, 112, .agg #[.string { data := #[] }, .int .i64 0, .int .i64 0, .int .i64 0, .slice none 0 0, .slice none 0 0, .slice none 0 0], true⟩),
  (49, ⟨.struct #[⟨ "ID", 9, 0, false, "", "", 0⟩, ⟨ "Version", 3, 1, false, "", "", 16⟩, ⟨ "Received", 3, 2, false, "", "", 24⟩, ⟨ "Kind", 3, 3, false, "", "", 32⟩, ⟨ "Messages", 22, 4, false, "", "", 40⟩, ⟨ "Rows", 46, 5, false, "", "", 64⟩, ⟨ "Rates", 47, 6, false, "", "", 88⟩], 7, 112, .agg #[.string { data := #[] }, .int .i64 0, .int .i64 0, .int .i64 0, .slice none 0 0, .slice none 0 0, .slice none 0 0], true⟩),
  (50, ⟨.func #[25] #[49] false, 1, 8, .nilFunc, false⟩),
  (51, ⟨.slice 49, 1, 24, .slice none 0 0, false⟩),
  (52, ⟨.func #[51] #[51] false, 1, 8, .nilFunc, false⟩),
  (53, ⟨.int .i64, 1, 8, .int .i64 0, false⟩),
  (54, ⟨.func #[49] #[53] false, 1, 8, .nilFunc, false⟩),
  (55, ⟨.func #[49, 23] #[4] false, 1, 8, .nilFunc, false⟩),
  (56, ⟨.func #[] #[49] false, 1, 8, .nilFunc, false⟩),
  (57, ⟨.func #[49] #[9] false, 1, 8, .nilFunc, false⟩),
  (58, ⟨.func #[3, 3] #[3] false, 1, 8, .nilFunc, false⟩),
  (59, ⟨.func #[] #[40] false, 1, 8, .nilFunc, false⟩),
  (60, ⟨.struct #[⟨ "Outlet", 9, 0, false, "", "", 0⟩, ⟨ "Product", 9, 1, false, "", "", 16⟩, ⟨ "Period", 3, 2, false, "", "", 32⟩, ⟨ "Units", 2, 3, false, "", "", 40⟩, ⟨ "Turnover", 2, 4, false, "", "", 48⟩], 5, 56, .agg #[.string { data := #[] }, .string { data := #[] }, .int .i64 0, .int .i64 0, .int .i64 0], true⟩),
  (61, ⟨.struct #[⟨ "Outlet", 9, 0, false, "", "", 0⟩, ⟨ "Product", 9, 1, false, "", "", 16⟩, ⟨ "Period", 3, 2, false, "", "", 32⟩, ⟨ "Units", 2, 3, false, "", "", 40⟩, ⟨ "Turnover", 2, 4, false, "", "", 48⟩], 5, 56, .agg #[.string { data := #[] }, .string { data := #[] }, .int .i64 0, .int .i64 0, .int .i64 0], true⟩),
  (62, ⟨.func #[] #[61] false, 1, 8, .nilFunc, false⟩),
  (63, ⟨.func #[23, 3, 3] #[4] false, 1, 8, .nilFunc, false⟩),
  (64, ⟨.func #[25] #[51] false, 1, 8, .nilFunc, false⟩),
  (65, ⟨.func #[51, 51] #[4] false, 1, 8, .nilFunc, false⟩),
  (66, ⟨.func #[51, 23] #[4] false, 1, 8, .nilFunc, false⟩),
  (67, ⟨.func #[3] #[3] false, 1, 8, .nilFunc, false⟩),
  (68, ⟨.func #[3] #[9] false, 1, 8, .nilFunc, false⟩),
  (69, ⟨.func #[51, 3] #[51] false, 1, 8, .nilFunc, false⟩),
  (70, ⟨.func #[51, 3, 23] #[4] false, 1, 8, .nilFunc, false⟩),
  (71, ⟨.func #[51, 3, 3] #[51] false, 1, 8, .nilFunc, false⟩),
  (72, ⟨.func #[51, 3, 3, 23] #[4] false, 1, 8, .nilFunc, false⟩),
  (73, ⟨.func #[25, 51] #[51] false, 1, 8, .nilFunc, false⟩),
  (74, ⟨.slice 51, 1, 24, .slice none 0 0, false⟩),
  (75, ⟨.func #[51] #[22] false, 1, 8, .nilFunc, false⟩),
  (76, ⟨.func #[46, 46] #[4] false, 1, 8, .nilFunc, false⟩),
  (77, ⟨.func #[51] #[46] false, 1, 8, .nilFunc, false⟩),
  (78, ⟨.func #[47, 47] #[4] false, 1, 8, .nilFunc, false⟩),
  (79, ⟨.func #[51] #[47] false, 1, 8, .nilFunc, false⟩),
  (80, ⟨.func #[3] #[22] false, 1, 8, .nilFunc, false⟩),
  (81, ⟨.func #[25] #[40] false, 1, 8, .nilFunc, false⟩),
  (82, ⟨.struct #[⟨ "Device", 9, 0, false, "", "", 0⟩, ⟨ "Sequence", 3, 1, false, "", "", 16⟩], 2, 24, .agg #[.string { data := #[] }, .int .i64 0], true⟩),
  (83, ⟨.struct #[⟨ "Device", 9, 0, false, "", "", 0⟩, ⟨ "Sequence", 3, 1, false, "", "", 16⟩], 2, 24, .agg #[.string { data := #[] }, .int .i64 0], true⟩),
  (84, ⟨.func #[22, 22] #[22] false, 1, 8, .nilFunc, false⟩),
  (85, ⟨.map 83 3, 1, 8, .map none, false⟩),
  (86, ⟨.func #[22] #[85] false, 1, 8, .nilFunc, false⟩),
  (87, ⟨.func #[40] #[83] false, 1, 8, .nilFunc, false⟩),
  (88, ⟨.func #[40, 40] #[4] false, 1, 8, .nilFunc, false⟩),
  (89, ⟨.func #[22, 90] #[4] false, 1, 8, .nilFunc, false⟩),
  (90, ⟨.func #[40] #[4] false, 1, 8, .nilFunc, false⟩),
  (91, ⟨.func #[22, 90] #[3] false, 1, 8, .nilFunc, false⟩),
  (92, ⟨.slice 9, 1, 24, .slice none 0 0, false⟩),
  (93, ⟨.slice 115, 1, 24, .slice none 0 0, false⟩),
  (94, ⟨.struct #[⟨ "Standing", 2, 0, false, "", "", 0⟩, ⟨ "Blocks", 93, 1, false, "", "", 8⟩], 2, 32, .agg #[.int .i64 0, .slice none 0 0], true⟩),
  (95, ⟨.struct #[⟨ "Standing", 2, 0, false, "", "", 0⟩, ⟨ "Blocks", 93, 1, false, "", "", 8⟩], 2, 32, .agg #[.int .i64 0, .slice none 0 0], true⟩),
  (96, ⟨.struct #[⟨ "Outlet", 9, 0, false, "", "", 0⟩, ⟨ "Product", 9, 1, false, "", "", 16⟩, ⟨ "Period", 3, 2, false, "", "", 32⟩, ⟨ "Tariff", 95, 3, false, "", "", 40⟩], 5, 72, .agg #[.string { data := #[] }, .string { data := #[] }, .int .i64 0, .int .i64 0, .slice none 0 0], true⟩),
  (97, ⟨.struct #[⟨ "Outlet", 9, 0, false, "", "", 0⟩, ⟨ "Product", 9, 1, false, "", "", 16⟩, ⟨ "Period", 3, 2, false, "", "", 32⟩, ⟨ "Tariff", 95, 3, false, "", "", 40⟩], 5, 72, .agg #[.string { data := #[] }, .string { data := #[] }, .int .i64 0, .int .i64 0, .slice none 0 0], true⟩),
  (98, ⟨.func #[40] #[53] false, 1, 8, .nilFunc, false⟩),
  (99, ⟨.func #[49] #[4] false, 1, 8, .nilFunc, false⟩),
  (100, ⟨.func #[9] #[4] false, 1, 8, .nilFunc, false⟩),
  (101, ⟨.func #[61] #[4] false, 1, 8, .nilFunc, false⟩),
  (102, ⟨.func #[97] #[4] false, 1, 8, .nilFunc, false⟩),
  (103, ⟨.func #[3] #[46] false, 1, 8, .nilFunc, false⟩),
  (104, ⟨.func #[] #[9] false, 1, 8, .nilFunc, false⟩),
  (105, ⟨.func #[] #[95] false, 1, 8, .nilFunc, false⟩),
  (106, ⟨.pointer 109, 1, 8, .pointer none, false⟩),
  (107, ⟨.slice 5, 1, 24, .slice none 0 0, false⟩),
  (108, ⟨.struct #[⟨ "addr", 106, 0, false, "", "strings", 0⟩, ⟨ "buf", 107, 1, false, "", "strings", 8⟩], 2, 32, .agg #[.pointer none, .slice none 0 0], true⟩),
  (109, ⟨.struct #[⟨ "addr", 106, 0, false, "", "strings", 0⟩, ⟨ "buf", 107, 1, false, "", "strings", 8⟩], 2, 32, .agg #[.pointer none, .slice none 0 0], true⟩),
  (110, ⟨.struct #[⟨ "Builder", 109, 0, true, "", "", 0⟩], 2, 32, .agg #[.pointer none, .slice none 0 0], true⟩),
  (111, ⟨.struct #[⟨ "Builder", 109, 0, true, "", "", 0⟩], 2, 32, .agg #[.pointer none, .slice none 0 0], true⟩),
  (112, ⟨.func #[92] #[] true, 1, 8, .nilFunc, false⟩),
  (113, ⟨.func #[147] #[] true, 1, 8, .nilFunc, false⟩),
  (114, ⟨.struct #[⟨ "UpTo", 2, 0, false, "", "", 0⟩, ⟨ "Price", 2, 1, false, "", "", 8⟩], 2, 16, .agg #[.int .i64 0, .int .i64 0], true⟩),
  (115, ⟨.struct #[⟨ "UpTo", 2, 0, false, "", "", 0⟩, ⟨ "Price", 2, 1, false, "", "", 8⟩], 2, 16, .agg #[.int .i64 0, .int .i64 0], true⟩),
  (116, ⟨.func #[92] #[9] true, 1, 8, .nilFunc, false⟩),
  (117, ⟨.func #[147] #[9] true, 1, 8, .nilFunc, false⟩),
  (118, ⟨.int .u64, 1, 8, .int .u64 0, false⟩),
  (119, ⟨.func #[] #[36] false, 1, 8, .nilFunc, false⟩),
  (120, ⟨.func #[3] #[51] false, 1, 8, .nilFunc, false⟩),
  (121, ⟨.map 9 49, 1, 8, .map none, false⟩),
  (122, ⟨.tuple #[49, 4], 1, 0, .tuple #[.agg #[.string { data := #[] }, .int .i64 0, .int .i64 0, .int .i64 0, .slice none 0 0, .slice none 0 0, .slice none 0 0], .bool false], false⟩),
  (123, ⟨.func #[92, 125] #[] false, 1, 8, .nilFunc, false⟩),
  (124, ⟨.func #[23] #[3] true, 1, 8, .nilFunc, false⟩),
  (125, ⟨.func #[9, 9] #[3] false, 1, 8, .nilFunc, false⟩),
  (126, ⟨.func #[49] #[49] false, 1, 8, .nilFunc, false⟩),
  (127, ⟨.func #[49, 49] #[4] false, 1, 8, .nilFunc, false⟩),
  (128, ⟨.tuple #[3, 4], 1, 0, .tuple #[.int .i64 0, .bool false], false⟩),
  (129, ⟨.func #[9] #[3, 4] false, 1, 8, .nilFunc, false⟩),
  (130, ⟨.tuple #[51, 51], 1, 0, .tuple #[.slice none 0 0, .slice none 0 0], false⟩),
  (131, ⟨.func #[51, 3] #[51, 51] false, 1, 8, .nilFunc, false⟩),
  (132, ⟨.map 9 3, 1, 8, .map none, false⟩),
  (133, ⟨.func #[51, 99] #[51] false, 1, 8, .nilFunc, false⟩),
  (134, ⟨.func #[51, 3] #[4] false, 1, 8, .nilFunc, false⟩),
  (135, ⟨.map 9 4, 1, 8, .map none, false⟩),
  (136, ⟨.func #[46] #[53] false, 1, 8, .nilFunc, false⟩),
  (137, ⟨.tuple #[46, 53], 1, 0, .tuple #[.slice none 0 0, .int .i64 0], false⟩),
  (138, ⟨.func #[46] #[46, 53] false, 1, 8, .nilFunc, false⟩),
  (139, ⟨.map 142 97, 1, 8, .map none, false⟩),
  (140, ⟨.map 142 4, 1, 8, .map none, false⟩),
  (141, ⟨.struct #[⟨ "outlet", 9, 0, false, "", "priceoffice/vintage", 0⟩, ⟨ "product", 9, 1, false, "", "priceoffice/vintage", 16⟩, ⟨ "period", 3, 2, false, "", "priceoffice/vintage", 32⟩], 3, 40, .agg #[.string { data := #[] }, .string { data := #[] }, .int .i64 0], true⟩),
  (142, ⟨.struct #[⟨ "outlet", 9, 0, false, "", "priceoffice/vintage", 0⟩, ⟨ "product", 9, 1, false, "", "priceoffice/vintage", 16⟩, ⟨ "period", 3, 2, false, "", "priceoffice/vintage", 32⟩], 3, 40, .agg #[.string { data := #[] }, .string { data := #[] }, .int .i64 0], true⟩),
  (143, ⟨.func #[93] #[93] false, 1, 8, .nilFunc, false⟩),
  (144, ⟨.func #[47, 145] #[] false, 1, 8, .nilFunc, false⟩),
  (145, ⟨.func #[97, 97] #[3] false, 1, 8, .nilFunc, false⟩),
  (146, ⟨.func #[97, 97] #[4] false, 1, 8, .nilFunc, false⟩),
  (147, ⟨.slice 2, 1, 24, .slice none 0 0, false⟩),
  (148, ⟨.func #[182] #[22] true, 1, 8, .nilFunc, false⟩),
  (149, ⟨.func #[22, 150] #[] false, 1, 8, .nilFunc, false⟩),
  (150, ⟨.func #[40, 40] #[3] false, 1, 8, .nilFunc, false⟩),
  (151, ⟨.func #[22, 90] #[22] false, 1, 8, .nilFunc, false⟩),
  (152, ⟨.func #[3] #[4] false, 1, 8, .nilFunc, false⟩),
  (153, ⟨.func #[36] #[4] false, 1, 8, .nilFunc, false⟩),
  (154, ⟨.func #[9, 9, 3] #[4] false, 1, 8, .nilFunc, false⟩),
  (155, ⟨.func #[47, 102] #[4] false, 1, 8, .nilFunc, false⟩),
  (156, ⟨.func #[38] #[4] false, 1, 8, .nilFunc, false⟩),
  (157, ⟨.func #[95] #[53] false, 1, 8, .nilFunc, false⟩),
  (158, ⟨.pointer 111, 1, 8, .pointer none, false⟩),
  (159, ⟨.interface #[("Error", 104)], 1, 16, .nilIface, false⟩),
  (160, ⟨.interface #[("Error", 104)], 1, 16, .nilIface, false⟩),
  (161, ⟨.tuple #[3, 160], 1, 0, .tuple #[.int .i64 0, .nilIface], false⟩),
  (162, ⟨.func #[9] #[3, 160] false, 1, 8, .nilFunc, false⟩),
  (163, ⟨.func #[2, 3] #[9] false, 1, 8, .nilFunc, false⟩),
  (164, ⟨.pointer 5, 1, 8, .pointer none, false⟩),
  (165, ⟨.func #[2] #[9] false, 1, 8, .nilFunc, false⟩),
  (166, ⟨.func #[92, 3, 3, 3, 125] #[] false, 1, 8, .nilFunc, false⟩),
  (167, ⟨.func #[168] #[3] false, 1, 8, .nilFunc, false⟩),
  (168, ⟨.int .u64, 1, 8, .int .u64 0, false⟩),
  (169, ⟨.func #[46] #[46] false, 1, 8, .nilFunc, false⟩),
  (170, ⟨.func #[47] #[47] false, 1, 8, .nilFunc, false⟩),
  (171, ⟨.map 173 3, 1, 8, .map none, false⟩),
  (172, ⟨.struct #[⟨ "id", 9, 0, false, "", "priceoffice/vintage", 0⟩, ⟨ "version", 3, 1, false, "", "priceoffice/vintage", 16⟩], 2, 24, .agg #[.string { data := #[] }, .int .i64 0], true⟩),
  (173, ⟨.struct #[⟨ "id", 9, 0, false, "", "priceoffice/vintage", 0⟩, ⟨ "version", 3, 1, false, "", "priceoffice/vintage", 16⟩], 2, 24, .agg #[.string { data := #[] }, .int .i64 0], true⟩),
  (174, ⟨.func #[51, 99] #[3] false, 1, 8, .nilFunc, false⟩),
  (175, ⟨.map 177 61, 1, 8, .map none, false⟩),
  (176, ⟨.struct #[⟨ "outlet", 9, 0, false, "", "priceoffice/scanner", 0⟩, ⟨ "product", 9, 1, false, "", "priceoffice/scanner", 16⟩, ⟨ "period", 3, 2, false, "", "priceoffice/scanner", 32⟩], 3, 40, .agg #[.string { data := #[] }, .string { data := #[] }, .int .i64 0], true⟩),
  (177, ⟨.struct #[⟨ "outlet", 9, 0, false, "", "priceoffice/scanner", 0⟩, ⟨ "product", 9, 1, false, "", "priceoffice/scanner", 16⟩, ⟨ "period", 3, 2, false, "", "priceoffice/scanner", 32⟩], 3, 40, .agg #[.string { data := #[] }, .string { data := #[] }, .int .i64 0], true⟩),
  (178, ⟨.func #[46, 179] #[] false, 1, 8, .nilFunc, false⟩),
  (179, ⟨.func #[61, 61] #[3] false, 1, 8, .nilFunc, false⟩),
  (180, ⟨.func #[61, 61] #[4] false, 1, 8, .nilFunc, false⟩),
  (181, ⟨.func #[47, 3, 3, 3, 145] #[] false, 1, 8, .nilFunc, false⟩),
  (182, ⟨.slice 22, 1, 24, .slice none 0 0, false⟩),
  (183, ⟨.func #[22, 3] #[22] false, 1, 8, .nilFunc, false⟩),
  (184, ⟨.func #[22, 3, 3, 3, 150] #[] false, 1, 8, .nilFunc, false⟩),
  (185, ⟨.func #[2, 2] #[3] false, 1, 8, .nilFunc, false⟩),
  (186, ⟨.struct #[⟨ "Dimension", 3, 0, false, "", "", 0⟩, ⟨ "Count", 3, 1, false, "", "", 8⟩, ⟨ "Amount", 2, 2, false, "", "", 16⟩], 3, 24, .agg #[.int .i64 0, .int .i64 0, .int .i64 0], true⟩),
  (187, ⟨.struct #[⟨ "Dimension", 3, 0, false, "", "", 0⟩, ⟨ "Count", 3, 1, false, "", "", 8⟩, ⟨ "Amount", 2, 2, false, "", "", 16⟩], 3, 24, .agg #[.int .i64 0, .int .i64 0, .int .i64 0], true⟩),
  (188, ⟨.slice 218, 1, 24, .slice none 0 0, false⟩),
  (189, ⟨.struct #[⟨ "ID", 9, 0, false, "", "", 0⟩, ⟨ "Code", 9, 1, false, "", "", 16⟩, ⟨ "Brand", 9, 2, false, "", "", 32⟩, ⟨ "Size", 187, 3, false, "", "", 48⟩, ⟨ "Attributes", 188, 6, false, "", "", 72⟩], 7, 96, .agg #[.string { data := #[] }, .string { data := #[] }, .string { data := #[] }, .int .i64 0, .int .i64 0, .int .i64 0, .slice none 0 0], true⟩),
  (190, ⟨.struct #[⟨ "ID", 9, 0, false, "", "", 0⟩, ⟨ "Code", 9, 1, false, "", "", 16⟩, ⟨ "Brand", 9, 2, false, "", "", 32⟩, ⟨ "Size", 187, 3, false, "", "", 48⟩, ⟨ "Attributes", 188, 6, false, "", "", 72⟩], 7, 96, .agg #[.string { data := #[] }, .string { data := #[] }, .string { data := #[] }, .int .i64 0, .int .i64 0, .int .i64 0, .slice none 0 0], true⟩),
  (191, ⟨.func #[190] #[53] false, 1, 8, .nilFunc, false⟩),
  (192, ⟨.func #[47, 102] #[3] false, 1, 8, .nilFunc, false⟩),
  (193, ⟨.func #[92, 3, 3, 125] #[] false, 1, 8, .nilFunc, false⟩),
  (194, ⟨.int .i64, 1, 8, .int .i64 0, false⟩),
  (195, ⟨.tuple #[3, 194], 1, 0, .tuple #[.int .i64 0, .int .i64 0], false⟩),
  (196, ⟨.func #[92, 3, 3, 125] #[3, 194] false, 1, 8, .nilFunc, false⟩),
  (197, ⟨.func #[92, 3, 3, 125] #[4] false, 1, 8, .nilFunc, false⟩),
  (198, ⟨.func #[92, 3, 3, 3, 125] #[3] false, 1, 8, .nilFunc, false⟩),
  (199, ⟨.func #[92, 3, 3, 3, 125] #[3, 4] false, 1, 8, .nilFunc, false⟩),
  (200, ⟨.func #[201] #[3] false, 1, 8, .nilFunc, false⟩),
  (201, ⟨.int .u32, 1, 4, .int .u32 0, false⟩),
  (202, ⟨.func #[118] #[3] false, 1, 8, .nilFunc, false⟩),
  (203, ⟨.func #[46, 3, 3, 3, 179] #[] false, 1, 8, .nilFunc, false⟩),
  (204, ⟨.func #[2] #[4] false, 1, 8, .nilFunc, false⟩),
  (205, ⟨.func #[47, 3, 3, 145] #[] false, 1, 8, .nilFunc, false⟩),
  (206, ⟨.func #[47, 3, 3, 145] #[3, 194] false, 1, 8, .nilFunc, false⟩),
  (207, ⟨.func #[47, 3, 3, 145] #[4] false, 1, 8, .nilFunc, false⟩),
  (208, ⟨.func #[47, 3, 3, 3, 145] #[3] false, 1, 8, .nilFunc, false⟩),
  (209, ⟨.func #[47, 3, 3, 3, 145] #[3, 4] false, 1, 8, .nilFunc, false⟩),
  (210, ⟨.func #[22, 3, 3, 150] #[] false, 1, 8, .nilFunc, false⟩),
  (211, ⟨.func #[22, 3, 3, 150] #[3, 194] false, 1, 8, .nilFunc, false⟩),
  (212, ⟨.func #[22, 3, 3, 150] #[4] false, 1, 8, .nilFunc, false⟩),
  (213, ⟨.func #[22, 3, 3, 3, 150] #[3] false, 1, 8, .nilFunc, false⟩),
  (214, ⟨.func #[22, 3, 3, 3, 150] #[3, 4] false, 1, 8, .nilFunc, false⟩),
  (215, ⟨.func #[9] #[3] false, 1, 8, .nilFunc, false⟩),
  (216, ⟨.func #[187] #[53] false, 1, 8, .nilFunc, false⟩),
  (217, ⟨.struct #[⟨ "Name", 9, 0, false, "", "", 0⟩, ⟨ "Value", 9, 1, false, "", "", 16⟩], 2, 32, .agg #[.string { data := #[] }, .string { data := #[] }], true⟩),
  (218, ⟨.struct #[⟨ "Name", 9, 0, false, "", "", 0⟩, ⟨ "Value", 9, 1, false, "", "", 16⟩], 2, 32, .agg #[.string { data := #[] }, .string { data := #[] }], true⟩),
  (219, ⟨.func #[9, 3, 3] #[4] false, 1, 8, .nilFunc, false⟩),
  (220, ⟨.unsafePointer, 1, 8, .pointer none, false⟩),
  (221, ⟨.func #[220] #[220] false, 1, 8, .nilFunc, false⟩),
  (222, ⟨.array 24 5, 24, 24, .agg #[.int .u8 0, .int .u8 0, .int .u8 0, .int .u8 0, .int .u8 0, .int .u8 0, .int .u8 0, .int .u8 0, .int .u8 0, .int .u8 0, .int .u8 0, .int .u8 0, .int .u8 0, .int .u8 0, .int .u8 0, .int .u8 0, .int .u8 0, .int .u8 0, .int .u8 0, .int .u8 0, .int .u8 0, .int .u8 0, .int .u8 0, .int .u8 0], false⟩),
  (223, ⟨.func #[107, 118] #[] false, 1, 8, .nilFunc, false⟩),
  (224, ⟨.tuple #[107, 9], 1, 0, .tuple #[.slice none 0 0, .string { data := #[] }], false⟩),
  (225, ⟨.func #[107, 118, 3, 4, 4] #[107, 9] false, 1, 8, .nilFunc, false⟩),
  (226, ⟨.int .u64, 1, 8, .int .u64 0, false⟩),
  (227, ⟨.func #[3] #[168] false, 1, 8, .nilFunc, false⟩),
  (228, ⟨.func #[] #[118] false, 1, 8, .nilFunc, false⟩),
  (229, ⟨.func #[92, 3, 230, 125] #[3] false, 1, 8, .nilFunc, false⟩),
  (230, ⟨.pointer 3, 1, 8, .pointer none, false⟩),
  (231, ⟨.func #[92, 3, 3, 3, 230, 125] #[3] false, 1, 8, .nilFunc, false⟩),
  (232, ⟨.func #[46, 3, 3, 179] #[] false, 1, 8, .nilFunc, false⟩),
  (233, ⟨.func #[46, 3, 3, 179] #[3, 194] false, 1, 8, .nilFunc, false⟩),
  (234, ⟨.func #[46, 3, 3, 179] #[4] false, 1, 8, .nilFunc, false⟩),
  (235, ⟨.func #[46, 3, 3, 3, 179] #[3] false, 1, 8, .nilFunc, false⟩),
  (236, ⟨.func #[46, 3, 3, 3, 179] #[3, 4] false, 1, 8, .nilFunc, false⟩),
  (237, ⟨.func #[47, 3, 230, 145] #[3] false, 1, 8, .nilFunc, false⟩),
  (238, ⟨.func #[47, 3, 3, 3, 230, 145] #[3] false, 1, 8, .nilFunc, false⟩),
  (239, ⟨.func #[22, 3, 230, 150] #[3] false, 1, 8, .nilFunc, false⟩),
  (240, ⟨.func #[22, 3, 3, 3, 230, 150] #[3] false, 1, 8, .nilFunc, false⟩),
  (241, ⟨.tuple #[23, 53], 1, 0, .tuple #[.slice none 0 0, .int .i64 0], false⟩),
  (242, ⟨.func #[9] #[23, 53] false, 1, 8, .nilFunc, false⟩),
  (243, ⟨.func #[9, 9] #[9] false, 1, 8, .nilFunc, false⟩),
  (244, ⟨.func #[9, 246] #[4] false, 1, 8, .nilFunc, false⟩),
  (245, ⟨.func #[9, 21] #[4] false, 1, 8, .nilFunc, false⟩),
  (246, ⟨.func #[21] #[4] false, 1, 8, .nilFunc, false⟩),
  (247, ⟨.func #[4] #[3] false, 1, 8, .nilFunc, false⟩),
  (248, ⟨.array 20 118, 20, 160, .agg #[.int .u64 0, .int .u64 0, .int .u64 0, .int .u64 0, .int .u64 0, .int .u64 0, .int .u64 0, .int .u64 0, .int .u64 0, .int .u64 0, .int .u64 0, .int .u64 0, .int .u64 0, .int .u64 0, .int .u64 0, .int .u64 0, .int .u64 0, .int .u64 0, .int .u64 0, .int .u64 0], false⟩),
  (249, ⟨.array 65 5, 65, 65, .agg ([.int .u8 0, .int .u8 0, .int .u8 0, .int .u8 0, .int .u8 0, .int .u8 0, .int .u8 0, .int .u8 0, .int .u8 0, .int .u8 0, .int .u8 0, .int .u8 0, .int .u8 0, .int .u8 0, .int .u8 0, .int .u8 0, .int .u8 0, .int .u8 0, .int .u8 0, .int .u8 0, .int .u8 0, .int .u8 0, .int .u8 0, .int .u8 0, .int .u8 0, .int .u8 0, .int .u8 0, .int .u8 0, .int .u8 0, .int .u8 0, .int .u8 0, .int .u8 0].append [.int .u8 0, .int .u8 0, .int .u8 0, .int .u8 0, .int .u8 0, .int .u8 0, .int .u8 0, .int .u8 0, .int .u8 0, .int .u8 0, .int .u8 0, .int .u8 0, .int .u8 0, .int .u8 0, .int .u8 0, .int .u8 0, .int .u8 0, .int .u8 0, .int .u8 0, .int .u8 0, .int .u8 0, .int .u8 0, .int .u8 0, .int .u8 0, .int .u8 0, .int .u8 0, .int .u8 0, .int .u8 0, .int .u8 0, .int .u8 0, .int .u8 0, .int .u8 0, .int .u8 0]).toArray, false⟩),
  (250, ⟨.pointer 226, 1, 8, .pointer none, false⟩),
  (251, ⟨.tuple #[3, 3], 1, 0, .tuple #[.int .i64 0, .int .i64 0], false⟩),
  (252, ⟨.func #[92, 3, 3, 230, 125] #[3, 3] false, 1, 8, .nilFunc, false⟩),
  (253, ⟨.func #[46, 3, 230, 179] #[3] false, 1, 8, .nilFunc, false⟩),
  (254, ⟨.func #[46, 3, 3, 3, 230, 179] #[3] false, 1, 8, .nilFunc, false⟩),
  (255, ⟨.func #[47, 3, 3, 230, 145] #[3, 3] false, 1, 8, .nilFunc, false⟩),
  (256, ⟨.func #[22, 3, 3, 230, 150] #[3, 3] false, 1, 8, .nilFunc, false⟩),
  (257, ⟨.func #[9, 9] #[92] false, 1, 8, .nilFunc, false⟩),
  (258, ⟨.tuple #[9, 53], 1, 0, .tuple #[.string { data := #[] }, .int .i64 0], false⟩),
  (259, ⟨.func #[23] #[9, 53] false, 1, 8, .nilFunc, false⟩),
  (260, ⟨.func #[9, 5] #[9] false, 1, 8, .nilFunc, false⟩),
  (264, ⟨.func #[9] #[262, 4] false, 1, 8, .nilFunc, false⟩),
  (265, ⟨.func #[9, 266] #[9] false, 1, 8, .nilFunc, false⟩),
  (266, ⟨.pointer 262, 1, 8, .pointer none, false⟩),
  (267, ⟨.func #[9, 246] #[3] false, 1, 8, .nilFunc, false⟩),
  (268, ⟨.func #[9, 21] #[3] false, 1, 8, .nilFunc, false⟩),
  (269, ⟨.func #[46, 3, 3, 230, 179] #[3, 3] false, 1, 8, .nilFunc, false⟩),
  (270, ⟨.func #[9, 9, 3, 3] #[92] false, 1, 8, .nilFunc, false⟩),
  (271, ⟨.func #[9, 9, 3, 3, 160] #[160] false, 1, 8, .nilFunc, false⟩),
  (272, ⟨.func #[23] #[3] false, 1, 8, .nilFunc, false⟩),
  (273, ⟨.func #[5] #[4] false, 1, 8, .nilFunc, false⟩),
  (274, ⟨.tuple #[21, 3], 1, 0, .tuple #[.int .i32 0, .int .i64 0], false⟩),
  (275, ⟨.func #[9] #[21, 3] false, 1, 8, .nilFunc, false⟩),
  (276, ⟨.func #[9, 246, 4] #[3] false, 1, 8, .nilFunc, false⟩),
  (277, ⟨.func #[9, 5] #[3] false, 1, 8, .nilFunc, false⟩),
  (278, ⟨.array 32 5, 32, 32, .agg #[.int .u8 0, .int .u8 0, .int .u8 0, .int .u8 0, .int .u8 0, .int .u8 0, .int .u8 0, .int .u8 0, .int .u8 0, .int .u8 0, .int .u8 0, .int .u8 0, .int .u8 0, .int .u8 0, .int .u8 0, .int .u8 0, .int .u8 0, .int .u8 0, .int .u8 0, .int .u8 0, .int .u8 0, .int .u8 0, .int .u8 0, .int .u8 0, .int .u8 0, .int .u8 0, .int .u8 0, .int .u8 0, .int .u8 0, .int .u8 0, .int .u8 0, .int .u8 0], false⟩),
  (279, ⟨.array 64 5, 64, 64, .agg #[.int .u8 0, .int .u8 0, .int .u8 0, .int .u8 0, .int .u8 0, .int .u8 0, .int .u8 0, .int .u8 0, .int .u8 0, .int .u8 0, .int .u8 0, .int .u8 0, .int .u8 0, .int .u8 0, .int .u8 0, .int .u8 0, .int .u8 0, .int .u8 0, .int .u8 0, .int .u8 0, .int .u8 0, .int .u8 0, .int .u8 0, .int .u8 0, .int .u8 0, .int .u8 0, .int .u8 0, .int .u8 0, .int .u8 0, .int .u8 0, .int .u8 0, .int .u8 0, .int .u8 0, .int .u8 0, .int .u8 0, .int .u8 0, .int .u8 0, .int .u8 0, .int .u8 0, .int .u8 0, .int .u8 0, .int .u8 0, .int .u8 0, .int .u8 0, .int .u8 0, .int .u8 0, .int .u8 0, .int .u8 0, .int .u8 0, .int .u8 0, .int .u8 0, .int .u8 0, .int .u8 0, .int .u8 0, .int .u8 0, .int .u8 0, .int .u8 0, .int .u8 0, .int .u8 0, .int .u8 0, .int .u8 0, .int .u8 0, .int .u8 0, .int .u8 0], false⟩),
  (280, ⟨.func #[9, 3] #[92] false, 1, 8, .nilFunc, false⟩),
  (281, ⟨.int .i64, 1, 8, .int .i64 0, false⟩),
  (282, ⟨.tuple #[2, 160], 1, 0, .tuple #[.int .i64 0, .nilIface], false⟩),
  (283, ⟨.func #[9, 3, 3] #[2, 160] false, 1, 8, .nilFunc, false⟩),
  (284, ⟨.pointer 291, 1, 8, .pointer none, false⟩),
  (285, ⟨.func #[9, 9] #[284] false, 1, 8, .nilFunc, false⟩),
  (286, ⟨.func #[9, 9, 3] #[284] false, 1, 8, .nilFunc, false⟩),
  (287, ⟨.tuple #[118, 160], 1, 0, .tuple #[.int .u64 0, .nilIface], false⟩),
  (288, ⟨.func #[9, 3, 3] #[118, 160] false, 1, 8, .nilFunc, false⟩),
  (289, ⟨.func #[9] #[9] false, 1, 8, .nilFunc, false⟩),
  (290, ⟨.struct #[⟨ "Func", 9, 0, false, "", "", 0⟩, ⟨ "Num", 9, 1, false, "", "", 16⟩, ⟨ "Err", 160, 2, false, "", "", 32⟩], 3, 48, .agg #[.string { data := #[] }, .string { data := #[] }, .nilIface], false⟩),
  (291, ⟨.struct #[⟨ "Func", 9, 0, false, "", "", 0⟩, ⟨ "Num", 9, 1, false, "", "", 16⟩, ⟨ "Err", 160, 2, false, "", "", 32⟩], 3, 48, .agg #[.string { data := #[] }, .string { data := #[] }, .nilIface], false⟩),
  (292, ⟨.func #[9] #[160] false, 1, 8, .nilFunc, false⟩),
  (294, ⟨.struct #[⟨ "lo", 5, 0, false, "", "unicode/utf8", 0⟩, ⟨ "hi", 5, 1, false, "", "unicode/utf8", 1⟩], 2, 2, .agg #[.int .u8 0, .int .u8 0], true⟩),
  (295, ⟨.struct #[⟨ "lo", 5, 0, false, "", "unicode/utf8", 0⟩, ⟨ "hi", 5, 1, false, "", "unicode/utf8", 1⟩], 2, 2, .agg #[.int .u8 0, .int .u8 0], true⟩),
  (296, ⟨.array 16 295, 32, 32, .agg #[.int .u8 0, .int .u8 0, .int .u8 0, .int .u8 0, .int .u8 0, .int .u8 0, .int .u8 0, .int .u8 0, .int .u8 0, .int .u8 0, .int .u8 0, .int .u8 0, .int .u8 0, .int .u8 0, .int .u8 0, .int .u8 0, .int .u8 0, .int .u8 0, .int .u8 0, .int .u8 0, .int .u8 0, .int .u8 0, .int .u8 0, .int .u8 0, .int .u8 0, .int .u8 0, .int .u8 0, .int .u8 0, .int .u8 0, .int .u8 0, .int .u8 0, .int .u8 0], false⟩),
  (297, ⟨.func #[5] #[5] false, 1, 8, .nilFunc, false⟩),
  (298, ⟨.pointer 300, 1, 8, .pointer none, false⟩),
  (299, ⟨.struct #[⟨ "s", 9, 0, false, "", "errors", 0⟩], 1, 16, .agg #[.string { data := #[] }], true⟩),
  (300, ⟨.struct #[⟨ "s", 9, 0, false, "", "errors", 0⟩], 1, 16, .agg #[.string { data := #[] }], true⟩),
  (301, ⟨.tuple #[201, 201], 1, 0, .tuple #[.int .u32 0, .int .u32 0], false⟩),
  (302, ⟨.func #[9] #[201, 201] false, 1, 8, .nilFunc, false⟩),
  (303, ⟨.struct #[⟨ "_interface", 17, 0, false, "", "runtime", 0⟩, ⟨ "concrete", 17, 1, false, "", "runtime", 8⟩, ⟨ "asserted", 17, 2, false, "", "runtime", 16⟩, ⟨ "missingMethod", 9, 3, false, "", "runtime", 24⟩], 4, 40, .agg #[.pointer none, .pointer none, .pointer none, .string { data := #[] }], false⟩),
  (304, ⟨.struct #[⟨ "_interface", 17, 0, false, "", "runtime", 0⟩, ⟨ "concrete", 17, 1, false, "", "runtime", 8⟩, ⟨ "asserted", 17, 2, false, "", "runtime", 16⟩, ⟨ "missingMethod", 9, 3, false, "", "runtime", 24⟩], 4, 40, .agg #[.pointer none, .pointer none, .pointer none, .string { data := #[] }], false⟩),
  (305, ⟨.array 0 16, 0, 0, .agg #[], false⟩),
  (306, ⟨.struct #[⟨ "_", 305, 0, false, "", "runtime", 0⟩], 0, 0, .agg #[], false⟩),
  (307, ⟨.struct #[⟨ "_", 305, 0, false, "", "runtime", 0⟩], 0, 0, .agg #[], false⟩),
  (308, ⟨.func #[] #[3] false, 1, 8, .nilFunc, false⟩),
  (309, ⟨.int .u8, 1, 1, .int .u8 0, false⟩),
  (310, ⟨.int .u8, 1, 1, .int .u8 0, false⟩),
  (311, ⟨.func #[220, 220] #[4] false, 1, 8, .nilFunc, false⟩),
  (312, ⟨.int .i32, 1, 4, .int .i32 0, false⟩),
  (313, ⟨.int .i32, 1, 4, .int .i32 0, false⟩),
  (314, ⟨.struct #[⟨ "Size_", 12, 0, false, "", "", 0⟩, ⟨ "PtrBytes", 12, 1, false, "", "", 8⟩, ⟨ "Hash", 201, 2, false, "", "", 16⟩, ⟨ "TFlag", 309, 3, false, "", "", 20⟩, ⟨ "Align_", 5, 4, false, "", "", 21⟩, ⟨ "FieldAlign_", 5, 5, false, "", "", 22⟩, ⟨ "Kind_", 310, 6, false, "", "", 23⟩, ⟨ "Equal", 311, 7, false, "", "", 24⟩, ⟨ "GCData", 164, 8, false, "", "", 32⟩, ⟨ "Str", 312, 9, false, "", "", 40⟩, ⟨ "PtrToThis", 313, 10, false, "", "", 44⟩], 11, 48, .agg #[.int .u64 0, .int .u64 0, .int .u32 0, .int .u8 0, .int .u8 0, .int .u8 0, .int .u8 0, .nilFunc, .pointer none, .int .i32 0, .int .i32 0], false⟩),
  (315, ⟨.struct #[⟨ "Size_", 12, 0, false, "", "", 0⟩, ⟨ "PtrBytes", 12, 1, false, "", "", 8⟩, ⟨ "Hash", 201, 2, false, "", "", 16⟩, ⟨ "TFlag", 309, 3, false, "", "", 20⟩, ⟨ "Align_", 5, 4, false, "", "", 21⟩, ⟨ "FieldAlign_", 5, 5, false, "", "", 22⟩, ⟨ "Kind_", 310, 6, false, "", "", 23⟩, ⟨ "Equal", 311, 7, false, "", "", 24⟩, ⟨ "GCData", 164, 8, false, "", "", 32⟩, ⟨ "Str", 312, 9, false, "", "", 40⟩, ⟨ "PtrToThis", 313, 10, false, "", "", 44⟩], 11, 48, .agg #[.int .u64 0, .int .u64 0, .int .u32 0, .int .u8 0, .int .u8 0, .int .u8 0, .int .u8 0, .nilFunc, .pointer none, .int .i32 0, .int .i32 0], false⟩)]
theorem te_ok : TE.ok Tryz.prog te := by
  refine TE.ok_cons Tryz.underlying0 ⟨_, Tryz.type0, rfl, rfl, rfl⟩ nofun ?_
  refine TE.ok_cons Tryz.underlying1 ⟨_, Tryz.type1, rfl, rfl, rfl⟩ nofun ?_
  refine TE.ok_cons Tryz.underlying2 ⟨_, Tryz.type2, rfl, rfl, rfl⟩ nofun ?_
  refine TE.ok_cons Tryz.underlying3 ⟨_, Tryz.type3, rfl, rfl, rfl⟩ nofun ?_
  refine TE.ok_cons Tryz.underlying4 ⟨_, Tryz.type4, rfl, rfl, rfl⟩ nofun ?_
  refine TE.ok_cons Tryz.underlying5 ⟨_, Tryz.type5, rfl, rfl, rfl⟩ nofun ?_
  refine TE.ok_cons Tryz.underlying6 ⟨_, Tryz.type6, rfl, rfl, rfl⟩ nofun ?_
  refine TE.ok_cons Tryz.underlying7 ⟨Tryz.t7, Tryz.type7, rfl, rfl, rfl⟩ (fun _ => ⟨Tryz.stoodInHeld7, Tryz.eqGuardType7, fun fs h f hf => by cases h; revert f; decide⟩) ?_
  refine TE.ok_cons Tryz.underlying8 ⟨Tryz.t8, Tryz.type8, rfl, rfl, rfl⟩ (fun _ => ⟨Tryz.stoodInHeld8, Tryz.eqGuardType8, fun fs h f hf => by cases h; revert f; decide⟩) ?_
  refine TE.ok_cons Tryz.underlying9 ⟨_, Tryz.type9, rfl, rfl, rfl⟩ nofun ?_
  refine TE.ok_cons Tryz.underlying10 ⟨_, Tryz.type10, rfl, rfl, rfl⟩ nofun ?_
  refine TE.ok_cons Tryz.underlying11 ⟨_, Tryz.type11, rfl, rfl, rfl⟩ nofun ?_
  refine TE.ok_cons Tryz.underlying12 ⟨_, Tryz.type12, rfl, rfl, rfl⟩ nofun ?_
  refine TE.ok_cons Tryz.underlying13 ⟨_, Tryz.type13, rfl, rfl, rfl⟩ nofun ?_
  refine TE.ok_cons Tryz.underlying14 ⟨_, Tryz.type14, rfl, rfl, rfl⟩ nofun ?_
  refine TE.ok_cons Tryz.underlying15 ⟨_, Tryz.type15, rfl, rfl, rfl⟩ nofun ?_
  refine TE.ok_cons Tryz.underlying16 ⟨_, Tryz.type16, rfl, rfl, rfl⟩ nofun ?_
  refine TE.ok_cons Tryz.underlying17 ⟨_, Tryz.type17, rfl, rfl, rfl⟩ nofun ?_
  refine TE.ok_cons Tryz.underlying18 ⟨_, Tryz.type18, rfl, rfl, rfl⟩ nofun ?_
  refine TE.ok_cons Tryz.underlying19 ⟨_, Tryz.type19, rfl, rfl, rfl⟩ nofun ?_
  refine TE.ok_cons Tryz.underlying20 ⟨_, Tryz.type20, rfl, rfl, rfl⟩ nofun ?_
  refine TE.ok_cons Tryz.underlying21 ⟨_, Tryz.type21, rfl, rfl, rfl⟩ nofun ?_
  refine TE.ok_cons Tryz.underlying22 ⟨_, Tryz.type22, rfl, rfl, rfl⟩ nofun ?_
  refine TE.ok_cons Tryz.underlying23 ⟨_, Tryz.type23, rfl, rfl, rfl⟩ nofun ?_
  refine TE.ok_cons Tryz.underlying24 ⟨_, Tryz.type24, rfl, rfl, rfl⟩ nofun ?_
  refine TE.ok_cons Tryz.underlying25 ⟨_, Tryz.type25, rfl, rfl, rfl⟩ nofun ?_
  refine TE.ok_cons Tryz.underlying26 ⟨Tryz.t26, Tryz.type26, rfl, rfl, rfl⟩ (fun _ => ⟨Tryz.stoodInHeld26, Tryz.eqGuardType26, fun fs h f hf => by cases h; revert f; decide⟩) ?_
  refine TE.ok_cons Tryz.underlying27 ⟨Tryz.t27, Tryz.type27, rfl, rfl, rfl⟩ (fun _ => ⟨Tryz.stoodInHeld27, Tryz.eqGuardType27, fun fs h f hf => by cases h; revert f; decide⟩) ?_
  refine TE.ok_cons Tryz.underlying28 ⟨_, Tryz.type28, rfl, rfl, rfl⟩ nofun ?_
  refine TE.ok_cons Tryz.underlying29 ⟨_, Tryz.type29, rfl, rfl, rfl⟩ nofun ?_
  refine TE.ok_cons Tryz.underlying30 ⟨_, Tryz.type30, rfl, rfl, rfl⟩ nofun ?_
  refine TE.ok_cons Tryz.underlying31 ⟨_, Tryz.type31, rfl, rfl, rfl⟩ nofun ?_
  refine TE.ok_cons Tryz.underlying32 ⟨_, Tryz.type32, rfl, rfl, rfl⟩ nofun ?_
  refine TE.ok_cons Tryz.underlying33 ⟨_, Tryz.type33, rfl, rfl, rfl⟩ nofun ?_
  refine TE.ok_cons Tryz.underlying34 ⟨_, Tryz.type34, rfl, rfl, rfl⟩ nofun ?_
  refine TE.ok_cons Tryz.underlying35 ⟨Tryz.t35, Tryz.type35, rfl, rfl, rfl⟩ (fun _ => ⟨Tryz.stoodInHeld35, Tryz.eqGuardType35, fun fs h f hf => by cases h; revert f; decide⟩) ?_
  refine TE.ok_cons Tryz.underlying36 ⟨Tryz.t36, Tryz.type36, rfl, rfl, rfl⟩ (fun _ => ⟨Tryz.stoodInHeld36, Tryz.eqGuardType36, fun fs h f hf => by cases h; revert f; decide⟩) ?_
  refine TE.ok_cons Tryz.underlying37 ⟨Tryz.t37, Tryz.type37, rfl, rfl, rfl⟩ (fun _ => ⟨Tryz.stoodInHeld37, Tryz.eqGuardType37, fun fs h f hf => by cases h; revert f; decide⟩) ?_
  refine TE.ok_cons Tryz.underlying38 ⟨Tryz.t38, Tryz.type38, rfl, rfl, rfl⟩ (fun _ => ⟨Tryz.stoodInHeld38, Tryz.eqGuardType38, fun fs h f hf => by cases h; revert f; decide⟩) ?_
  refine TE.ok_cons Tryz.underlying39 ⟨Tryz.t39, Tryz.type39, rfl, rfl, rfl⟩ (fun _ => ⟨Tryz.stoodInHeld39, Tryz.eqGuardType39, fun fs h f hf => by cases h; revert f; decide⟩) ?_
  refine TE.ok_cons Tryz.underlying40 ⟨Tryz.t40, Tryz.type40, rfl, rfl, rfl⟩ (fun _ => ⟨Tryz.stoodInHeld40, Tryz.eqGuardType40, fun fs h f hf => by cases h; revert f; decide⟩) ?_
  refine TE.ok_cons Tryz.underlying41 ⟨_, Tryz.type41, rfl, rfl, rfl⟩ nofun ?_
  refine TE.ok_cons Tryz.underlying42 ⟨_, Tryz.type42, rfl, rfl, rfl⟩ nofun ?_
  refine TE.ok_cons Tryz.underlying43 ⟨_, Tryz.type43, rfl, rfl, rfl⟩ nofun ?_
  refine TE.ok_cons Tryz.underlying44 ⟨_, Tryz.type44, rfl, rfl, rfl⟩ nofun ?_
  refine TE.ok_cons Tryz.underlying45 ⟨_, Tryz.type45, rfl, rfl, rfl⟩ nofun ?_
  refine TE.ok_cons Tryz.underlying46 ⟨_, Tryz.type46, rfl, rfl, rfl⟩ nofun ?_
  refine TE.ok_cons Tryz.underlying47 ⟨_, Tryz.type47, rfl, rfl, rfl⟩ nofun ?_
  refine TE.ok_cons Tryz.underlying48 ⟨Tryz.t48, Tryz.type48, rfl, rfl, rfl⟩ (fun _ => ⟨Tryz.stoodInHeld48, Tryz.eqGuardType48, fun fs h f hf => by cases h; revert f; decide⟩) ?_
  refine TE.ok_cons Tryz.underlying49 ⟨Tryz.t49, Tryz.type49, rfl, rfl, rfl⟩ (fun _ => ⟨Tryz.stoodInHeld49, Tryz.eqGuardType49, fun fs h f hf => by cases h; revert f; decide⟩) ?_
  refine TE.ok_cons Tryz.underlying50 ⟨_, Tryz.type50, rfl, rfl, rfl⟩ nofun ?_
  refine TE.ok_cons Tryz.underlying51 ⟨_, Tryz.type51, rfl, rfl, rfl⟩ nofun ?_
  refine TE.ok_cons Tryz.underlying52 ⟨_, Tryz.type52, rfl, rfl, rfl⟩ nofun ?_
  refine TE.ok_cons Tryz.underlying53 ⟨_, Tryz.type53, rfl, rfl, rfl⟩ nofun ?_
  refine TE.ok_cons Tryz.underlying54 ⟨_, Tryz.type54, rfl, rfl, rfl⟩ nofun ?_
  refine TE.ok_cons Tryz.underlying55 ⟨_, Tryz.type55, rfl, rfl, rfl⟩ nofun ?_
  refine TE.ok_cons Tryz.underlying56 ⟨_, Tryz.type56, rfl, rfl, rfl⟩ nofun ?_
  refine TE.ok_cons Tryz.underlying57 ⟨_, Tryz.type57, rfl, rfl, rfl⟩ nofun ?_
  refine TE.ok_cons Tryz.underlying58 ⟨_, Tryz.type58, rfl, rfl, rfl⟩ nofun ?_
  refine TE.ok_cons Tryz.underlying59 ⟨_, Tryz.type59, rfl, rfl, rfl⟩ nofun ?_
  refine TE.ok_cons Tryz.underlying60 ⟨Tryz.t60, Tryz.type60, rfl, rfl, rfl⟩ (fun _ => ⟨Tryz.stoodInHeld60, Tryz.eqGuardType60, fun fs h f hf => by cases h; revert f; decide⟩) ?_
  refine TE.ok_cons Tryz.underlying61 ⟨Tryz.t61, Tryz.type61, rfl, rfl, rfl⟩ (fun _ => ⟨Tryz.stoodInHeld61, Tryz.eqGuardType61, fun fs h f hf => by cases h; revert f; decide⟩) ?_
  refine TE.ok_cons Tryz.underlying62 ⟨_, Tryz.type62, rfl, rfl, rfl⟩ nofun ?_
  refine TE.ok_cons Tryz.underlying63 ⟨_, Tryz.type63, rfl, rfl, rfl⟩ nofun ?_
  refine TE.ok_cons Tryz.underlying64 ⟨_, Tryz.type64, rfl, rfl, rfl⟩ nofun ?_
  refine TE.ok_cons Tryz.underlying65 ⟨_, Tryz.type65, rfl, rfl, rfl⟩ nofun ?_
  refine TE.ok_cons Tryz.underlying66 ⟨_, Tryz.type66, rfl, rfl, rfl⟩ nofun ?_
  refine TE.ok_cons Tryz.underlying67 ⟨_, Tryz.type67, rfl, rfl, rfl⟩ nofun ?_
  refine TE.ok_cons Tryz.underlying68 ⟨_, Tryz.type68, rfl, rfl, rfl⟩ nofun ?_
  refine TE.ok_cons Tryz.underlying69 ⟨_, Tryz.type69, rfl, rfl, rfl⟩ nofun ?_
  refine TE.ok_cons Tryz.underlying70 ⟨_, Tryz.type70, rfl, rfl, rfl⟩ nofun ?_
  refine TE.ok_cons Tryz.underlying71 ⟨_, Tryz.type71, rfl, rfl, rfl⟩ nofun ?_
  refine TE.ok_cons Tryz.underlying72 ⟨_, Tryz.type72, rfl, rfl, rfl⟩ nofun ?_
  refine TE.ok_cons Tryz.underlying73 ⟨_, Tryz.type73, rfl, rfl, rfl⟩ nofun ?_
  refine TE.ok_cons Tryz.underlying74 ⟨_, Tryz.type74, rfl, rfl, rfl⟩ nofun ?_
  refine TE.ok_cons Tryz.underlying75 ⟨_, Tryz.type75, rfl, rfl, rfl⟩ nofun ?_
  refine TE.ok_cons Tryz.underlying76 ⟨_, Tryz.type76, rfl, rfl, rfl⟩ nofun ?_
  refine TE.ok_cons Tryz.underlying77 ⟨_, Tryz.type77, rfl, rfl, rfl⟩ nofun ?_
  refine TE.ok_cons Tryz.underlying78 ⟨_, Tryz.type78, rfl, rfl, rfl⟩ nofun ?_
  refine TE.ok_cons Tryz.underlying79 ⟨_, Tryz.type79, rfl, rfl, rfl⟩ nofun ?_
  refine TE.ok_cons Tryz.underlying80 ⟨_, Tryz.type80, rfl, rfl, rfl⟩ nofun ?_
  refine TE.ok_cons Tryz.underlying81 ⟨_, Tryz.type81, rfl, rfl, rfl⟩ nofun ?_
  refine TE.ok_cons Tryz.underlying82 ⟨Tryz.t82, Tryz.type82, rfl, rfl, rfl⟩ (fun _ => ⟨Tryz.stoodInHeld82, Tryz.eqGuardType82, fun fs h f hf => by cases h; revert f; decide⟩) ?_
  refine TE.ok_cons Tryz.underlying83 ⟨Tryz.t83, Tryz.type83, rfl, rfl, rfl⟩ (fun _ => ⟨Tryz.stoodInHeld83, Tryz.eqGuardType83, fun fs h f hf => by cases h; revert f; decide⟩) ?_
  refine TE.ok_cons Tryz.underlying84 ⟨_, Tryz.type84, rfl, rfl, rfl⟩ nofun ?_
  refine TE.ok_cons Tryz.underlying85 ⟨_, Tryz.type85, rfl, rfl, rfl⟩ nofun ?_
  refine TE.ok_cons Tryz.underlying86 ⟨_, Tryz.type86, rfl, rfl, rfl⟩ nofun ?_
  refine TE.ok_cons Tryz.underlying87 ⟨_, Tryz.type87, rfl, rfl, rfl⟩ nofun ?_
  refine TE.ok_cons Tryz.underlying88 ⟨_, Tryz.type88, rfl, rfl, rfl⟩ nofun ?_
  refine TE.ok_cons Tryz.underlying89 ⟨_, Tryz.type89, rfl, rfl, rfl⟩ nofun ?_
  refine TE.ok_cons Tryz.underlying90 ⟨_, Tryz.type90, rfl, rfl, rfl⟩ nofun ?_
  refine TE.ok_cons Tryz.underlying91 ⟨_, Tryz.type91, rfl, rfl, rfl⟩ nofun ?_
  refine TE.ok_cons Tryz.underlying92 ⟨_, Tryz.type92, rfl, rfl, rfl⟩ nofun ?_
  refine TE.ok_cons Tryz.underlying93 ⟨_, Tryz.type93, rfl, rfl, rfl⟩ nofun ?_
  refine TE.ok_cons Tryz.underlying94 ⟨Tryz.t94, Tryz.type94, rfl, rfl, rfl⟩ (fun _ => ⟨Tryz.stoodInHeld94, Tryz.eqGuardType94, fun fs h f hf => by cases h; revert f; decide⟩) ?_
  refine TE.ok_cons Tryz.underlying95 ⟨Tryz.t95, Tryz.type95, rfl, rfl, rfl⟩ (fun _ => ⟨Tryz.stoodInHeld95, Tryz.eqGuardType95, fun fs h f hf => by cases h; revert f; decide⟩) ?_
  refine TE.ok_cons Tryz.underlying96 ⟨Tryz.t96, Tryz.type96, rfl, rfl, rfl⟩ (fun _ => ⟨Tryz.stoodInHeld96, Tryz.eqGuardType96, fun fs h f hf => by cases h; revert f; decide⟩) ?_
  refine TE.ok_cons Tryz.underlying97 ⟨Tryz.t97, Tryz.type97, rfl, rfl, rfl⟩ (fun _ => ⟨Tryz.stoodInHeld97, Tryz.eqGuardType97, fun fs h f hf => by cases h; revert f; decide⟩) ?_
  refine TE.ok_cons Tryz.underlying98 ⟨_, Tryz.type98, rfl, rfl, rfl⟩ nofun ?_
  refine TE.ok_cons Tryz.underlying99 ⟨_, Tryz.type99, rfl, rfl, rfl⟩ nofun ?_
  refine TE.ok_cons Tryz.underlying100 ⟨_, Tryz.type100, rfl, rfl, rfl⟩ nofun ?_
  refine TE.ok_cons Tryz.underlying101 ⟨_, Tryz.type101, rfl, rfl, rfl⟩ nofun ?_
  refine TE.ok_cons Tryz.underlying102 ⟨_, Tryz.type102, rfl, rfl, rfl⟩ nofun ?_
  refine TE.ok_cons Tryz.underlying103 ⟨_, Tryz.type103, rfl, rfl, rfl⟩ nofun ?_
  refine TE.ok_cons Tryz.underlying104 ⟨_, Tryz.type104, rfl, rfl, rfl⟩ nofun ?_
  refine TE.ok_cons Tryz.underlying105 ⟨_, Tryz.type105, rfl, rfl, rfl⟩ nofun ?_
  refine TE.ok_cons Tryz.underlying106 ⟨_, Tryz.type106, rfl, rfl, rfl⟩ nofun ?_
  refine TE.ok_cons Tryz.underlying107 ⟨_, Tryz.type107, rfl, rfl, rfl⟩ nofun ?_
  refine TE.ok_cons Tryz.underlying108 ⟨Tryz.t108, Tryz.type108, rfl, rfl, rfl⟩ (fun _ => ⟨Tryz.stoodInHeld108, Tryz.eqGuardType108, fun fs h f hf => by cases h; revert f; decide⟩) ?_
  refine TE.ok_cons Tryz.underlying109 ⟨Tryz.t109, Tryz.type109, rfl, rfl, rfl⟩ (fun _ => ⟨Tryz.stoodInHeld109, Tryz.eqGuardType109, fun fs h f hf => by cases h; revert f; decide⟩) ?_
  refine TE.ok_cons Tryz.underlying110 ⟨Tryz.t110, Tryz.type110, rfl, rfl, rfl⟩ (fun _ => ⟨Tryz.stoodInHeld110, Tryz.eqGuardType110, fun fs h f hf => by cases h; revert f; decide⟩) ?_
  refine TE.ok_cons Tryz.underlying111 ⟨Tryz.t111, Tryz.type111, rfl, rfl, rfl⟩ (fun _ => ⟨Tryz.stoodInHeld111, Tryz.eqGuardType111, fun fs h f hf => by cases h; revert f; decide⟩) ?_
  refine TE.ok_cons Tryz.underlying112 ⟨_, Tryz.type112, rfl, rfl, rfl⟩ nofun ?_
  refine TE.ok_cons Tryz.underlying113 ⟨_, Tryz.type113, rfl, rfl, rfl⟩ nofun ?_
  refine TE.ok_cons Tryz.underlying114 ⟨Tryz.t114, Tryz.type114, rfl, rfl, rfl⟩ (fun _ => ⟨Tryz.stoodInHeld114, Tryz.eqGuardType114, fun fs h f hf => by cases h; revert f; decide⟩) ?_
  refine TE.ok_cons Tryz.underlying115 ⟨Tryz.t115, Tryz.type115, rfl, rfl, rfl⟩ (fun _ => ⟨Tryz.stoodInHeld115, Tryz.eqGuardType115, fun fs h f hf => by cases h; revert f; decide⟩) ?_
  refine TE.ok_cons Tryz.underlying116 ⟨_, Tryz.type116, rfl, rfl, rfl⟩ nofun ?_
  refine TE.ok_cons Tryz.underlying117 ⟨_, Tryz.type117, rfl, rfl, rfl⟩ nofun ?_
  refine TE.ok_cons Tryz.underlying118 ⟨_, Tryz.type118, rfl, rfl, rfl⟩ nofun ?_
  refine TE.ok_cons Tryz.underlying119 ⟨_, Tryz.type119, rfl, rfl, rfl⟩ nofun ?_
  refine TE.ok_cons Tryz.underlying120 ⟨_, Tryz.type120, rfl, rfl, rfl⟩ nofun ?_
  refine TE.ok_cons Tryz.underlying121 ⟨_, Tryz.type121, rfl, rfl, rfl⟩ nofun ?_
  refine TE.ok_cons Tryz.underlying122 ⟨_, Tryz.type122, rfl, rfl, rfl⟩ nofun ?_
  refine TE.ok_cons Tryz.underlying123 ⟨_, Tryz.type123, rfl, rfl, rfl⟩ nofun ?_
  refine TE.ok_cons Tryz.underlying124 ⟨_, Tryz.type124, rfl, rfl, rfl⟩ nofun ?_
  refine TE.ok_cons Tryz.underlying125 ⟨_, Tryz.type125, rfl, rfl, rfl⟩ nofun ?_
  refine TE.ok_cons Tryz.underlying126 ⟨_, Tryz.type126, rfl, rfl, rfl⟩ nofun ?_
  refine TE.ok_cons Tryz.underlying127 ⟨_, Tryz.type127, rfl, rfl, rfl⟩ nofun ?_
  refine TE.ok_cons Tryz.underlying128 ⟨_, Tryz.type128, rfl, rfl, rfl⟩ nofun ?_
  refine TE.ok_cons Tryz.underlying129 ⟨_, Tryz.type129, rfl, rfl, rfl⟩ nofun ?_
  refine TE.ok_cons Tryz.underlying130 ⟨_, Tryz.type130, rfl, rfl, rfl⟩ nofun ?_
  refine TE.ok_cons Tryz.underlying131 ⟨_, Tryz.type131, rfl, rfl, rfl⟩ nofun ?_
  refine TE.ok_cons Tryz.underlying132 ⟨_, Tryz.type132, rfl, rfl, rfl⟩ nofun ?_
  refine TE.ok_cons Tryz.underlying133 ⟨_, Tryz.type133, rfl, rfl, rfl⟩ nofun ?_
  refine TE.ok_cons Tryz.underlying134 ⟨_, Tryz.type134, rfl, rfl, rfl⟩ nofun ?_
  refine TE.ok_cons Tryz.underlying135 ⟨_, Tryz.type135, rfl, rfl, rfl⟩ nofun ?_
  refine TE.ok_cons Tryz.underlying136 ⟨_, Tryz.type136, rfl, rfl, rfl⟩ nofun ?_
  refine TE.ok_cons Tryz.underlying137 ⟨_, Tryz.type137, rfl, rfl, rfl⟩ nofun ?_
  refine TE.ok_cons Tryz.underlying138 ⟨_, Tryz.type138, rfl, rfl, rfl⟩ nofun ?_
  refine TE.ok_cons Tryz.underlying139 ⟨_, Tryz.type139, rfl, rfl, rfl⟩ nofun ?_
  refine TE.ok_cons Tryz.underlying140 ⟨_, Tryz.type140, rfl, rfl, rfl⟩ nofun ?_
  refine TE.ok_cons Tryz.underlying141 ⟨Tryz.t141, Tryz.type141, rfl, rfl, rfl⟩ (fun _ => ⟨Tryz.stoodInHeld141, Tryz.eqGuardType141, fun fs h f hf => by cases h; revert f; decide⟩) ?_
  refine TE.ok_cons Tryz.underlying142 ⟨Tryz.t142, Tryz.type142, rfl, rfl, rfl⟩ (fun _ => ⟨Tryz.stoodInHeld142, Tryz.eqGuardType142, fun fs h f hf => by cases h; revert f; decide⟩) ?_
  refine TE.ok_cons Tryz.underlying143 ⟨_, Tryz.type143, rfl, rfl, rfl⟩ nofun ?_
  refine TE.ok_cons Tryz.underlying144 ⟨_, Tryz.type144, rfl, rfl, rfl⟩ nofun ?_
  refine TE.ok_cons Tryz.underlying145 ⟨_, Tryz.type145, rfl, rfl, rfl⟩ nofun ?_
  refine TE.ok_cons Tryz.underlying146 ⟨_, Tryz.type146, rfl, rfl, rfl⟩ nofun ?_
  refine TE.ok_cons Tryz.underlying147 ⟨_, Tryz.type147, rfl, rfl, rfl⟩ nofun ?_
  refine TE.ok_cons Tryz.underlying148 ⟨_, Tryz.type148, rfl, rfl, rfl⟩ nofun ?_
  refine TE.ok_cons Tryz.underlying149 ⟨_, Tryz.type149, rfl, rfl, rfl⟩ nofun ?_
  refine TE.ok_cons Tryz.underlying150 ⟨_, Tryz.type150, rfl, rfl, rfl⟩ nofun ?_
  refine TE.ok_cons Tryz.underlying151 ⟨_, Tryz.type151, rfl, rfl, rfl⟩ nofun ?_
  refine TE.ok_cons Tryz.underlying152 ⟨_, Tryz.type152, rfl, rfl, rfl⟩ nofun ?_
  refine TE.ok_cons Tryz.underlying153 ⟨_, Tryz.type153, rfl, rfl, rfl⟩ nofun ?_
  refine TE.ok_cons Tryz.underlying154 ⟨_, Tryz.type154, rfl, rfl, rfl⟩ nofun ?_
  refine TE.ok_cons Tryz.underlying155 ⟨_, Tryz.type155, rfl, rfl, rfl⟩ nofun ?_
  refine TE.ok_cons Tryz.underlying156 ⟨_, Tryz.type156, rfl, rfl, rfl⟩ nofun ?_
  refine TE.ok_cons Tryz.underlying157 ⟨_, Tryz.type157, rfl, rfl, rfl⟩ nofun ?_
  refine TE.ok_cons Tryz.underlying158 ⟨_, Tryz.type158, rfl, rfl, rfl⟩ nofun ?_
  refine TE.ok_cons Tryz.underlying159 ⟨_, Tryz.type159, rfl, rfl, rfl⟩ nofun ?_
  refine TE.ok_cons Tryz.underlying160 ⟨_, Tryz.type160, rfl, rfl, rfl⟩ nofun ?_
  refine TE.ok_cons Tryz.underlying161 ⟨_, Tryz.type161, rfl, rfl, rfl⟩ nofun ?_
  refine TE.ok_cons Tryz.underlying162 ⟨_, Tryz.type162, rfl, rfl, rfl⟩ nofun ?_
  refine TE.ok_cons Tryz.underlying163 ⟨_, Tryz.type163, rfl, rfl, rfl⟩ nofun ?_
  refine TE.ok_cons Tryz.underlying164 ⟨_, Tryz.type164, rfl, rfl, rfl⟩ nofun ?_
  refine TE.ok_cons Tryz.underlying165 ⟨_, Tryz.type165, rfl, rfl, rfl⟩ nofun ?_
  refine TE.ok_cons Tryz.underlying166 ⟨_, Tryz.type166, rfl, rfl, rfl⟩ nofun ?_
  refine TE.ok_cons Tryz.underlying167 ⟨_, Tryz.type167, rfl, rfl, rfl⟩ nofun ?_
  refine TE.ok_cons Tryz.underlying168 ⟨_, Tryz.type168, rfl, rfl, rfl⟩ nofun ?_
  refine TE.ok_cons Tryz.underlying169 ⟨_, Tryz.type169, rfl, rfl, rfl⟩ nofun ?_
  refine TE.ok_cons Tryz.underlying170 ⟨_, Tryz.type170, rfl, rfl, rfl⟩ nofun ?_
  refine TE.ok_cons Tryz.underlying171 ⟨_, Tryz.type171, rfl, rfl, rfl⟩ nofun ?_
  refine TE.ok_cons Tryz.underlying172 ⟨Tryz.t172, Tryz.type172, rfl, rfl, rfl⟩ (fun _ => ⟨Tryz.stoodInHeld172, Tryz.eqGuardType172, fun fs h f hf => by cases h; revert f; decide⟩) ?_
  refine TE.ok_cons Tryz.underlying173 ⟨Tryz.t173, Tryz.type173, rfl, rfl, rfl⟩ (fun _ => ⟨Tryz.stoodInHeld173, Tryz.eqGuardType173, fun fs h f hf => by cases h; revert f; decide⟩) ?_
  refine TE.ok_cons Tryz.underlying174 ⟨_, Tryz.type174, rfl, rfl, rfl⟩ nofun ?_
  refine TE.ok_cons Tryz.underlying175 ⟨_, Tryz.type175, rfl, rfl, rfl⟩ nofun ?_
  refine TE.ok_cons Tryz.underlying176 ⟨Tryz.t176, Tryz.type176, rfl, rfl, rfl⟩ (fun _ => ⟨Tryz.stoodInHeld176, Tryz.eqGuardType176, fun fs h f hf => by cases h; revert f; decide⟩) ?_
  refine TE.ok_cons Tryz.underlying177 ⟨Tryz.t177, Tryz.type177, rfl, rfl, rfl⟩ (fun _ => ⟨Tryz.stoodInHeld177, Tryz.eqGuardType177, fun fs h f hf => by cases h; revert f; decide⟩) ?_
  refine TE.ok_cons Tryz.underlying178 ⟨_, Tryz.type178, rfl, rfl, rfl⟩ nofun ?_
  refine TE.ok_cons Tryz.underlying179 ⟨_, Tryz.type179, rfl, rfl, rfl⟩ nofun ?_
  refine TE.ok_cons Tryz.underlying180 ⟨_, Tryz.type180, rfl, rfl, rfl⟩ nofun ?_
  refine TE.ok_cons Tryz.underlying181 ⟨_, Tryz.type181, rfl, rfl, rfl⟩ nofun ?_
  refine TE.ok_cons Tryz.underlying182 ⟨_, Tryz.type182, rfl, rfl, rfl⟩ nofun ?_
  refine TE.ok_cons Tryz.underlying183 ⟨_, Tryz.type183, rfl, rfl, rfl⟩ nofun ?_
  refine TE.ok_cons Tryz.underlying184 ⟨_, Tryz.type184, rfl, rfl, rfl⟩ nofun ?_
  refine TE.ok_cons Tryz.underlying185 ⟨_, Tryz.type185, rfl, rfl, rfl⟩ nofun ?_
  refine TE.ok_cons Tryz.underlying186 ⟨Tryz.t186, Tryz.type186, rfl, rfl, rfl⟩ (fun _ => ⟨Tryz.stoodInHeld186, Tryz.eqGuardType186, fun fs h f hf => by cases h; revert f; decide⟩) ?_
  refine TE.ok_cons Tryz.underlying187 ⟨Tryz.t187, Tryz.type187, rfl, rfl, rfl⟩ (fun _ => ⟨Tryz.stoodInHeld187, Tryz.eqGuardType187, fun fs h f hf => by cases h; revert f; decide⟩) ?_
  refine TE.ok_cons Tryz.underlying188 ⟨_, Tryz.type188, rfl, rfl, rfl⟩ nofun ?_
  refine TE.ok_cons Tryz.underlying189 ⟨Tryz.t189, Tryz.type189, rfl, rfl, rfl⟩ (fun _ => ⟨Tryz.stoodInHeld189, Tryz.eqGuardType189, fun fs h f hf => by cases h; revert f; decide⟩) ?_
  refine TE.ok_cons Tryz.underlying190 ⟨Tryz.t190, Tryz.type190, rfl, rfl, rfl⟩ (fun _ => ⟨Tryz.stoodInHeld190, Tryz.eqGuardType190, fun fs h f hf => by cases h; revert f; decide⟩) ?_
  refine TE.ok_cons Tryz.underlying191 ⟨_, Tryz.type191, rfl, rfl, rfl⟩ nofun ?_
  refine TE.ok_cons Tryz.underlying192 ⟨_, Tryz.type192, rfl, rfl, rfl⟩ nofun ?_
  refine TE.ok_cons Tryz.underlying193 ⟨_, Tryz.type193, rfl, rfl, rfl⟩ nofun ?_
  refine TE.ok_cons Tryz.underlying194 ⟨_, Tryz.type194, rfl, rfl, rfl⟩ nofun ?_
  refine TE.ok_cons Tryz.underlying195 ⟨_, Tryz.type195, rfl, rfl, rfl⟩ nofun ?_
  refine TE.ok_cons Tryz.underlying196 ⟨_, Tryz.type196, rfl, rfl, rfl⟩ nofun ?_
  refine TE.ok_cons Tryz.underlying197 ⟨_, Tryz.type197, rfl, rfl, rfl⟩ nofun ?_
  refine TE.ok_cons Tryz.underlying198 ⟨_, Tryz.type198, rfl, rfl, rfl⟩ nofun ?_
  refine TE.ok_cons Tryz.underlying199 ⟨_, Tryz.type199, rfl, rfl, rfl⟩ nofun ?_
  refine TE.ok_cons Tryz.underlying200 ⟨_, Tryz.type200, rfl, rfl, rfl⟩ nofun ?_
  refine TE.ok_cons Tryz.underlying201 ⟨_, Tryz.type201, rfl, rfl, rfl⟩ nofun ?_
  refine TE.ok_cons Tryz.underlying202 ⟨_, Tryz.type202, rfl, rfl, rfl⟩ nofun ?_
  refine TE.ok_cons Tryz.underlying203 ⟨_, Tryz.type203, rfl, rfl, rfl⟩ nofun ?_
  refine TE.ok_cons Tryz.underlying204 ⟨_, Tryz.type204, rfl, rfl, rfl⟩ nofun ?_
  refine TE.ok_cons Tryz.underlying205 ⟨_, Tryz.type205, rfl, rfl, rfl⟩ nofun ?_
  refine TE.ok_cons Tryz.underlying206 ⟨_, Tryz.type206, rfl, rfl, rfl⟩ nofun ?_
  refine TE.ok_cons Tryz.underlying207 ⟨_, Tryz.type207, rfl, rfl, rfl⟩ nofun ?_
  refine TE.ok_cons Tryz.underlying208 ⟨_, Tryz.type208, rfl, rfl, rfl⟩ nofun ?_
  refine TE.ok_cons Tryz.underlying209 ⟨_, Tryz.type209, rfl, rfl, rfl⟩ nofun ?_
  refine TE.ok_cons Tryz.underlying210 ⟨_, Tryz.type210, rfl, rfl, rfl⟩ nofun ?_
  refine TE.ok_cons Tryz.underlying211 ⟨_, Tryz.type211, rfl, rfl, rfl⟩ nofun ?_
  refine TE.ok_cons Tryz.underlying212 ⟨_, Tryz.type212, rfl, rfl, rfl⟩ nofun ?_
  refine TE.ok_cons Tryz.underlying213 ⟨_, Tryz.type213, rfl, rfl, rfl⟩ nofun ?_
  refine TE.ok_cons Tryz.underlying214 ⟨_, Tryz.type214, rfl, rfl, rfl⟩ nofun ?_
  refine TE.ok_cons Tryz.underlying215 ⟨_, Tryz.type215, rfl, rfl, rfl⟩ nofun ?_
  refine TE.ok_cons Tryz.underlying216 ⟨_, Tryz.type216, rfl, rfl, rfl⟩ nofun ?_
  refine TE.ok_cons Tryz.underlying217 ⟨Tryz.t217, Tryz.type217, rfl, rfl, rfl⟩ (fun _ => ⟨Tryz.stoodInHeld217, Tryz.eqGuardType217, fun fs h f hf => by cases h; revert f; decide⟩) ?_
  refine TE.ok_cons Tryz.underlying218 ⟨Tryz.t218, Tryz.type218, rfl, rfl, rfl⟩ (fun _ => ⟨Tryz.stoodInHeld218, Tryz.eqGuardType218, fun fs h f hf => by cases h; revert f; decide⟩) ?_
  refine TE.ok_cons Tryz.underlying219 ⟨_, Tryz.type219, rfl, rfl, rfl⟩ nofun ?_
  refine TE.ok_cons Tryz.underlying220 ⟨_, Tryz.type220, rfl, rfl, rfl⟩ nofun ?_
  refine TE.ok_cons Tryz.underlying221 ⟨_, Tryz.type221, rfl, rfl, rfl⟩ nofun ?_
  refine TE.ok_cons Tryz.underlying222 ⟨_, Tryz.type222, rfl, rfl, rfl⟩ nofun ?_
  refine TE.ok_cons Tryz.underlying223 ⟨_, Tryz.type223, rfl, rfl, rfl⟩ nofun ?_
  refine TE.ok_cons Tryz.underlying224 ⟨_, Tryz.type224, rfl, rfl, rfl⟩ nofun ?_
  refine TE.ok_cons Tryz.underlying225 ⟨_, Tryz.type225, rfl, rfl, rfl⟩ nofun ?_
  refine TE.ok_cons Tryz.underlying226 ⟨_, Tryz.type226, rfl, rfl, rfl⟩ nofun ?_
  refine TE.ok_cons Tryz.underlying227 ⟨_, Tryz.type227, rfl, rfl, rfl⟩ nofun ?_
  refine TE.ok_cons Tryz.underlying228 ⟨_, Tryz.type228, rfl, rfl, rfl⟩ nofun ?_
  refine TE.ok_cons Tryz.underlying229 ⟨_, Tryz.type229, rfl, rfl, rfl⟩ nofun ?_
  refine TE.ok_cons Tryz.underlying230 ⟨_, Tryz.type230, rfl, rfl, rfl⟩ nofun ?_
  refine TE.ok_cons Tryz.underlying231 ⟨_, Tryz.type231, rfl, rfl, rfl⟩ nofun ?_
  refine TE.ok_cons Tryz.underlying232 ⟨_, Tryz.type232, rfl, rfl, rfl⟩ nofun ?_
  refine TE.ok_cons Tryz.underlying233 ⟨_, Tryz.type233, rfl, rfl, rfl⟩ nofun ?_
  refine TE.ok_cons Tryz.underlying234 ⟨_, Tryz.type234, rfl, rfl, rfl⟩ nofun ?_
  refine TE.ok_cons Tryz.underlying235 ⟨_, Tryz.type235, rfl, rfl, rfl⟩ nofun ?_
  refine TE.ok_cons Tryz.underlying236 ⟨_, Tryz.type236, rfl, rfl, rfl⟩ nofun ?_
  refine TE.ok_cons Tryz.underlying237 ⟨_, Tryz.type237, rfl, rfl, rfl⟩ nofun ?_
  refine TE.ok_cons Tryz.underlying238 ⟨_, Tryz.type238, rfl, rfl, rfl⟩ nofun ?_
  refine TE.ok_cons Tryz.underlying239 ⟨_, Tryz.type239, rfl, rfl, rfl⟩ nofun ?_
  refine TE.ok_cons Tryz.underlying240 ⟨_, Tryz.type240, rfl, rfl, rfl⟩ nofun ?_
  refine TE.ok_cons Tryz.underlying241 ⟨_, Tryz.type241, rfl, rfl, rfl⟩ nofun ?_
  refine TE.ok_cons Tryz.underlying242 ⟨_, Tryz.type242, rfl, rfl, rfl⟩ nofun ?_
  refine TE.ok_cons Tryz.underlying243 ⟨_, Tryz.type243, rfl, rfl, rfl⟩ nofun ?_
  refine TE.ok_cons Tryz.underlying244 ⟨_, Tryz.type244, rfl, rfl, rfl⟩ nofun ?_
  refine TE.ok_cons Tryz.underlying245 ⟨_, Tryz.type245, rfl, rfl, rfl⟩ nofun ?_
  refine TE.ok_cons Tryz.underlying246 ⟨_, Tryz.type246, rfl, rfl, rfl⟩ nofun ?_
  refine TE.ok_cons Tryz.underlying247 ⟨_, Tryz.type247, rfl, rfl, rfl⟩ nofun ?_
  refine TE.ok_cons Tryz.underlying248 ⟨_, Tryz.type248, rfl, rfl, rfl⟩ nofun ?_
  refine TE.ok_cons Tryz.underlying249 ⟨_, Tryz.type249, rfl, rfl, rfl⟩ nofun ?_
  refine TE.ok_cons Tryz.underlying250 ⟨_, Tryz.type250, rfl, rfl, rfl⟩ nofun ?_
  refine TE.ok_cons Tryz.underlying251 ⟨_, Tryz.type251, rfl, rfl, rfl⟩ nofun ?_
  refine TE.ok_cons Tryz.underlying252 ⟨_, Tryz.type252, rfl, rfl, rfl⟩ nofun ?_
  refine TE.ok_cons Tryz.underlying253 ⟨_, Tryz.type253, rfl, rfl, rfl⟩ nofun ?_
  refine TE.ok_cons Tryz.underlying254 ⟨_, Tryz.type254, rfl, rfl, rfl⟩ nofun ?_
  refine TE.ok_cons Tryz.underlying255 ⟨_, Tryz.type255, rfl, rfl, rfl⟩ nofun ?_
  refine TE.ok_cons Tryz.underlying256 ⟨_, Tryz.type256, rfl, rfl, rfl⟩ nofun ?_
  refine TE.ok_cons Tryz.underlying257 ⟨_, Tryz.type257, rfl, rfl, rfl⟩ nofun ?_
  refine TE.ok_cons Tryz.underlying258 ⟨_, Tryz.type258, rfl, rfl, rfl⟩ nofun ?_
  refine TE.ok_cons Tryz.underlying259 ⟨_, Tryz.type259, rfl, rfl, rfl⟩ nofun ?_
  refine TE.ok_cons Tryz.underlying260 ⟨_, Tryz.type260, rfl, rfl, rfl⟩ nofun ?_
  refine TE.ok_cons Tryz.underlying264 ⟨_, Tryz.type264, rfl, rfl, rfl⟩ nofun ?_
  refine TE.ok_cons Tryz.underlying265 ⟨_, Tryz.type265, rfl, rfl, rfl⟩ nofun ?_
  refine TE.ok_cons Tryz.underlying266 ⟨_, Tryz.type266, rfl, rfl, rfl⟩ nofun ?_
  refine TE.ok_cons Tryz.underlying267 ⟨_, Tryz.type267, rfl, rfl, rfl⟩ nofun ?_
  refine TE.ok_cons Tryz.underlying268 ⟨_, Tryz.type268, rfl, rfl, rfl⟩ nofun ?_
  refine TE.ok_cons Tryz.underlying269 ⟨_, Tryz.type269, rfl, rfl, rfl⟩ nofun ?_
  refine TE.ok_cons Tryz.underlying270 ⟨_, Tryz.type270, rfl, rfl, rfl⟩ nofun ?_
  refine TE.ok_cons Tryz.underlying271 ⟨_, Tryz.type271, rfl, rfl, rfl⟩ nofun ?_
  refine TE.ok_cons Tryz.underlying272 ⟨_, Tryz.type272, rfl, rfl, rfl⟩ nofun ?_
  refine TE.ok_cons Tryz.underlying273 ⟨_, Tryz.type273, rfl, rfl, rfl⟩ nofun ?_
  refine TE.ok_cons Tryz.underlying274 ⟨_, Tryz.type274, rfl, rfl, rfl⟩ nofun ?_
  refine TE.ok_cons Tryz.underlying275 ⟨_, Tryz.type275, rfl, rfl, rfl⟩ nofun ?_
  refine TE.ok_cons Tryz.underlying276 ⟨_, Tryz.type276, rfl, rfl, rfl⟩ nofun ?_
  refine TE.ok_cons Tryz.underlying277 ⟨_, Tryz.type277, rfl, rfl, rfl⟩ nofun ?_
  refine TE.ok_cons Tryz.underlying278 ⟨_, Tryz.type278, rfl, rfl, rfl⟩ nofun ?_
  refine TE.ok_cons Tryz.underlying279 ⟨_, Tryz.type279, rfl, rfl, rfl⟩ nofun ?_
  refine TE.ok_cons Tryz.underlying280 ⟨_, Tryz.type280, rfl, rfl, rfl⟩ nofun ?_
  refine TE.ok_cons Tryz.underlying281 ⟨_, Tryz.type281, rfl, rfl, rfl⟩ nofun ?_
  refine TE.ok_cons Tryz.underlying282 ⟨_, Tryz.type282, rfl, rfl, rfl⟩ nofun ?_
  refine TE.ok_cons Tryz.underlying283 ⟨_, Tryz.type283, rfl, rfl, rfl⟩ nofun ?_
  refine TE.ok_cons Tryz.underlying284 ⟨_, Tryz.type284, rfl, rfl, rfl⟩ nofun ?_
  refine TE.ok_cons Tryz.underlying285 ⟨_, Tryz.type285, rfl, rfl, rfl⟩ nofun ?_
  refine TE.ok_cons Tryz.underlying286 ⟨_, Tryz.type286, rfl, rfl, rfl⟩ nofun ?_
  refine TE.ok_cons Tryz.underlying287 ⟨_, Tryz.type287, rfl, rfl, rfl⟩ nofun ?_
  refine TE.ok_cons Tryz.underlying288 ⟨_, Tryz.type288, rfl, rfl, rfl⟩ nofun ?_
  refine TE.ok_cons Tryz.underlying289 ⟨_, Tryz.type289, rfl, rfl, rfl⟩ nofun ?_
  refine TE.ok_cons Tryz.underlying290 ⟨_, Tryz.type290, rfl, rfl, rfl⟩ nofun ?_
  refine TE.ok_cons Tryz.underlying291 ⟨_, Tryz.type291, rfl, rfl, rfl⟩ nofun ?_
  refine TE.ok_cons Tryz.underlying292 ⟨_, Tryz.type292, rfl, rfl, rfl⟩ nofun ?_
  refine TE.ok_cons Tryz.underlying294 ⟨Tryz.t294, Tryz.type294, rfl, rfl, rfl⟩ (fun _ => ⟨Tryz.stoodInHeld294, Tryz.eqGuardType294, fun fs h f hf => by cases h; revert f; decide⟩) ?_
  refine TE.ok_cons Tryz.underlying295 ⟨Tryz.t295, Tryz.type295, rfl, rfl, rfl⟩ (fun _ => ⟨Tryz.stoodInHeld295, Tryz.eqGuardType295, fun fs h f hf => by cases h; revert f; decide⟩) ?_
  refine TE.ok_cons Tryz.underlying296 ⟨_, Tryz.type296, rfl, rfl, rfl⟩ nofun ?_
  refine TE.ok_cons Tryz.underlying297 ⟨_, Tryz.type297, rfl, rfl, rfl⟩ nofun ?_
  refine TE.ok_cons Tryz.underlying298 ⟨_, Tryz.type298, rfl, rfl, rfl⟩ nofun ?_
  refine TE.ok_cons Tryz.underlying299 ⟨Tryz.t299, Tryz.type299, rfl, rfl, rfl⟩ (fun _ => ⟨Tryz.stoodInHeld299, Tryz.eqGuardType299, fun fs h f hf => by cases h; revert f; decide⟩) ?_
  refine TE.ok_cons Tryz.underlying300 ⟨Tryz.t300, Tryz.type300, rfl, rfl, rfl⟩ (fun _ => ⟨Tryz.stoodInHeld300, Tryz.eqGuardType300, fun fs h f hf => by cases h; revert f; decide⟩) ?_
  refine TE.ok_cons Tryz.underlying301 ⟨_, Tryz.type301, rfl, rfl, rfl⟩ nofun ?_
  refine TE.ok_cons Tryz.underlying302 ⟨_, Tryz.type302, rfl, rfl, rfl⟩ nofun ?_
  refine TE.ok_cons Tryz.underlying303 ⟨_, Tryz.type303, rfl, rfl, rfl⟩ nofun ?_
  refine TE.ok_cons Tryz.underlying304 ⟨_, Tryz.type304, rfl, rfl, rfl⟩ nofun ?_
  refine TE.ok_cons Tryz.underlying305 ⟨_, Tryz.type305, rfl, rfl, rfl⟩ nofun ?_
  refine TE.ok_cons Tryz.underlying306 ⟨_, Tryz.type306, rfl, rfl, rfl⟩ nofun ?_
  refine TE.ok_cons Tryz.underlying307 ⟨_, Tryz.type307, rfl, rfl, rfl⟩ nofun ?_
  refine TE.ok_cons Tryz.underlying308 ⟨_, Tryz.type308, rfl, rfl, rfl⟩ nofun ?_
  refine TE.ok_cons Tryz.underlying309 ⟨_, Tryz.type309, rfl, rfl, rfl⟩ nofun ?_
  refine TE.ok_cons Tryz.underlying310 ⟨_, Tryz.type310, rfl, rfl, rfl⟩ nofun ?_
  refine TE.ok_cons Tryz.underlying311 ⟨_, Tryz.type311, rfl, rfl, rfl⟩ nofun ?_
  refine TE.ok_cons Tryz.underlying312 ⟨_, Tryz.type312, rfl, rfl, rfl⟩ nofun ?_
  refine TE.ok_cons Tryz.underlying313 ⟨_, Tryz.type313, rfl, rfl, rfl⟩ nofun ?_
  refine TE.ok_cons Tryz.underlying314 ⟨_, Tryz.type314, rfl, rfl, rfl⟩ nofun ?_
  refine TE.ok_cons Tryz.underlying315 ⟨_, Tryz.type315, rfl, rfl, rfl⟩ nofun ?_
  exact TE.ok_nil
set_option maxRecDepth 100000 in
theorem te_one : ∀ t ti, lk te t = some ti → isAggD ti.desc = false → ti.sz = 1 := TE.one_of (by rfl)
end Go.Eng
