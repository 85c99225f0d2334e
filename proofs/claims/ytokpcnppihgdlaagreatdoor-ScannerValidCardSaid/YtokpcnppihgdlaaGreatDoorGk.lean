/- Lemmas that the tied card of ScannerValid is proved by. -/
import Derived.Test.YtokpcnppihgdlaaGreatDoorGe
import Derived.Test.YtokpcnppihgdlaaGreatDoorProg
/- The table of types. Printed by gen_te.py. -/
namespace Go.Eng
open Go.Proofs

def te : TE := [
  (0, { desc := TypeDesc.tuple #[], sz := 1, bytes := 0, zero := Value.tuple #[], cmp := false }),
  (1, { desc := TypeDesc.func #[] #[] false, sz := 1, bytes := 8, zero := Value.nilFunc, cmp := false }),
  (2, { desc := TypeDesc.int IntKind.i64, sz := 1, bytes := 8, zero := Value.int IntKind.i64 0, cmp := false }),
  (3, { desc := TypeDesc.int IntKind.i64, sz := 1, bytes := 8, zero := Value.int IntKind.i64 0, cmp := false }),
  (4, { desc := TypeDesc.bool, sz := 1, bytes := 1, zero := Value.bool false, cmp := false }),
  (5, { desc := TypeDesc.int IntKind.u8, sz := 1, bytes := 1, zero := Value.int IntKind.u8 0, cmp := false }),
  (6, { desc := TypeDesc.int IntKind.u8, sz := 1, bytes := 1, zero := Value.int IntKind.u8 0, cmp := false }),
  (7, { desc := TypeDesc.struct #[{ name := "x", type := 2, offset := 0, embedded := false, tag := "", pkgPath := "runtime", byteOffset := 0 }, { name := "y", type := 3, offset := 1, embedded := false, tag := "", pkgPath := "runtime", byteOffset := 8 }, { name := "signed", type := 4, offset := 2, embedded := false, tag := "", pkgPath := "runtime", byteOffset := 16 }, { name := "code", type := 6, offset := 3, embedded := false, tag := "", pkgPath := "runtime", byteOffset := 17 }], sz := 4, bytes := 24, zero := Value.agg #[Value.int IntKind.i64 0, Value.int IntKind.i64 0, Value.bool false, Value.int IntKind.u8 0], cmp := true }),
  (8, { desc := TypeDesc.struct #[{ name := "x", type := 2, offset := 0, embedded := false, tag := "", pkgPath := "runtime", byteOffset := 0 }, { name := "y", type := 3, offset := 1, embedded := false, tag := "", pkgPath := "runtime", byteOffset := 8 }, { name := "signed", type := 4, offset := 2, embedded := false, tag := "", pkgPath := "runtime", byteOffset := 16 }, { name := "code", type := 6, offset := 3, embedded := false, tag := "", pkgPath := "runtime", byteOffset := 17 }], sz := 4, bytes := 24, zero := Value.agg #[Value.int IntKind.i64 0, Value.int IntKind.i64 0, Value.bool false, Value.int IntKind.u8 0], cmp := true }),
  (9, { desc := TypeDesc.string, sz := 1, bytes := 16, zero := Value.string { data := #[] }, cmp := false }),
  (10, { desc := TypeDesc.string, sz := 1, bytes := 16, zero := Value.string { data := #[] }, cmp := false }),
  (11, { desc := TypeDesc.string, sz := 1, bytes := 16, zero := Value.string { data := #[] }, cmp := false }),
  (12, { desc := TypeDesc.int IntKind.u64, sz := 1, bytes := 8, zero := Value.int IntKind.u64 0, cmp := false }),
  (13, { desc := TypeDesc.struct #[{ name := "msg", type := 9, offset := 0, embedded := false, tag := "", pkgPath := "runtime", byteOffset := 0 }, { name := "addr", type := 12, offset := 1, embedded := false, tag := "", pkgPath := "runtime", byteOffset := 16 }], sz := 2, bytes := 24, zero := Value.agg #[Value.string { data := #[] }, Value.int IntKind.u64 0], cmp := false }),
  (14, { desc := TypeDesc.struct #[{ name := "msg", type := 9, offset := 0, embedded := false, tag := "", pkgPath := "runtime", byteOffset := 0 }, { name := "addr", type := 12, offset := 1, embedded := false, tag := "", pkgPath := "runtime", byteOffset := 16 }], sz := 2, bytes := 24, zero := Value.agg #[Value.string { data := #[] }, Value.int IntKind.u64 0], cmp := false }),
  (15, { desc := TypeDesc.pointer 232, sz := 1, bytes := 8, zero := Value.pointer none, cmp := false }),
  (16, { desc := TypeDesc.pointer 235, sz := 1, bytes := 8, zero := Value.pointer none, cmp := false }),
  (17, { desc := TypeDesc.pointer 243, sz := 1, bytes := 8, zero := Value.pointer none, cmp := false }),
  (18, { desc := TypeDesc.struct #[{ name := "typ", type := 17, offset := 0, embedded := false, tag := "", pkgPath := "internal/runtime/maps", byteOffset := 0 }], sz := 1, bytes := 8, zero := Value.agg #[Value.pointer none], cmp := false }),
  (19, { desc := TypeDesc.struct #[{ name := "typ", type := 17, offset := 0, embedded := false, tag := "", pkgPath := "internal/runtime/maps", byteOffset := 0 }], sz := 1, bytes := 8, zero := Value.agg #[Value.pointer none], cmp := false }),
  (20, { desc := TypeDesc.interface #[], sz := 1, bytes := 16, zero := Value.nilIface, cmp := false }),
  (21, { desc := TypeDesc.int IntKind.i32, sz := 1, bytes := 4, zero := Value.int IntKind.i32 0, cmp := false }),
  (22, { desc := TypeDesc.slice 39, sz := 1, bytes := 24, zero := Value.slice none 0 0, cmp := false }),
  (23, { desc := TypeDesc.slice 3, sz := 1, bytes := 24, zero := Value.slice none 0 0, cmp := false }),
  (24, { desc := TypeDesc.func #[22] #[22] false, sz := 1, bytes := 8, zero := Value.nilFunc, cmp := false }),
  (25, { desc := TypeDesc.func #[26] #[22] false, sz := 1, bytes := 8, zero := Value.nilFunc, cmp := false }),
  (26, { desc := TypeDesc.pointer 28, sz := 1, bytes := 8, zero := Value.pointer none, cmp := false }),
  (27, { desc := TypeDesc.struct #[{ name := "L", type := 23, offset := 0, embedded := false, tag := "", pkgPath := "", byteOffset := 0 }, { name := "At", type := 3, offset := 1, embedded := false, tag := "", pkgPath := "", byteOffset := 24 }], sz := 2, bytes := 32, zero := Value.agg #[Value.slice none 0 0, Value.int IntKind.i64 0], cmp := true }),
  (28, { desc := TypeDesc.struct #[{ name := "L", type := 23, offset := 0, embedded := false, tag := "", pkgPath := "", byteOffset := 0 }, { name := "At", type := 3, offset := 1, embedded := false, tag := "", pkgPath := "", byteOffset := 24 }], sz := 2, bytes := 32, zero := Value.agg #[Value.slice none 0 0, Value.int IntKind.i64 0], cmp := true }),
  (29, { desc := TypeDesc.slice 22, sz := 1, bytes := 24, zero := Value.slice none 0 0, cmp := false }),
  (30, { desc := TypeDesc.int IntKind.i64, sz := 1, bytes := 8, zero := Value.int IntKind.i64 0, cmp := false }),
  (31, { desc := TypeDesc.tuple #[22, 30], sz := 1, bytes := 0, zero := Value.tuple #[Value.slice none 0 0, Value.int IntKind.i64 0], cmp := false }),
  (32, { desc := TypeDesc.func #[22] #[22, 30] false, sz := 1, bytes := 8, zero := Value.nilFunc, cmp := false }),
  (33, { desc := TypeDesc.func #[22] #[30] false, sz := 1, bytes := 8, zero := Value.nilFunc, cmp := false }),
  (34, { desc := TypeDesc.func #[22, 22] #[4] false, sz := 1, bytes := 8, zero := Value.nilFunc, cmp := false }),
  (35, { desc := TypeDesc.func #[] #[4] false, sz := 1, bytes := 8, zero := Value.nilFunc, cmp := false }),
  (36, { desc := TypeDesc.func #[22, 23] #[4] false, sz := 1, bytes := 8, zero := Value.nilFunc, cmp := false }),
  (37, { desc := TypeDesc.func #[3, 3] #[3] false, sz := 1, bytes := 8, zero := Value.nilFunc, cmp := false }),
  (38, { desc := TypeDesc.struct #[{ name := "Outlet", type := 9, offset := 0, embedded := false, tag := "", pkgPath := "", byteOffset := 0 }, { name := "Product", type := 9, offset := 1, embedded := false, tag := "", pkgPath := "", byteOffset := 16 }, { name := "Period", type := 3, offset := 2, embedded := false, tag := "", pkgPath := "", byteOffset := 32 }, { name := "Units", type := 2, offset := 3, embedded := false, tag := "", pkgPath := "", byteOffset := 40 }, { name := "Turnover", type := 2, offset := 4, embedded := false, tag := "", pkgPath := "", byteOffset := 48 }], sz := 5, bytes := 56, zero := Value.agg #[Value.string { data := #[] }, Value.string { data := #[] }, Value.int IntKind.i64 0, Value.int IntKind.i64 0, Value.int IntKind.i64 0], cmp := true }),
  (39, { desc := TypeDesc.struct #[{ name := "Outlet", type := 9, offset := 0, embedded := false, tag := "", pkgPath := "", byteOffset := 0 }, { name := "Product", type := 9, offset := 1, embedded := false, tag := "", pkgPath := "", byteOffset := 16 }, { name := "Period", type := 3, offset := 2, embedded := false, tag := "", pkgPath := "", byteOffset := 32 }, { name := "Units", type := 2, offset := 3, embedded := false, tag := "", pkgPath := "", byteOffset := 40 }, { name := "Turnover", type := 2, offset := 4, embedded := false, tag := "", pkgPath := "", byteOffset := 48 }], sz := 5, bytes := 56, zero := Value.agg #[Value.string { data := #[] }, Value.string { data := #[] }, Value.int IntKind.i64 0, Value.int IntKind.i64 0, Value.int IntKind.i64 0], cmp := true }),
  (40, { desc := TypeDesc.func #[] #[39] false, sz := 1, bytes := 8, zero := Value.nilFunc, cmp := false }),
  (41, { desc := TypeDesc.func #[3] #[4] false, sz := 1, bytes := 8, zero := Value.nilFunc, cmp := false }),
  (42, { desc := TypeDesc.func #[3] #[22] false, sz := 1, bytes := 8, zero := Value.nilFunc, cmp := false }),
  (43, { desc := TypeDesc.func #[23] #[4] false, sz := 1, bytes := 8, zero := Value.nilFunc, cmp := false }),
  (44, { desc := TypeDesc.slice 96, sz := 1, bytes := 24, zero := Value.slice none 0 0, cmp := false }),
  (45, { desc := TypeDesc.func #[3, 3] #[44] false, sz := 1, bytes := 8, zero := Value.nilFunc, cmp := false }),
  (46, { desc := TypeDesc.func #[3] #[3] false, sz := 1, bytes := 8, zero := Value.nilFunc, cmp := false }),
  (47, { desc := TypeDesc.tuple #[2, 2], sz := 1, bytes := 0, zero := Value.tuple #[Value.int IntKind.i64 0, Value.int IntKind.i64 0], cmp := false }),
  (48, { desc := TypeDesc.func #[22, 44, 3] #[2, 2] false, sz := 1, bytes := 8, zero := Value.nilFunc, cmp := false }),
  (49, { desc := TypeDesc.func #[22, 3] #[2] false, sz := 1, bytes := 8, zero := Value.nilFunc, cmp := false }),
  (50, { desc := TypeDesc.func #[22, 3, 23] #[4] false, sz := 1, bytes := 8, zero := Value.nilFunc, cmp := false }),
  (51, { desc := TypeDesc.struct #[{ name := "Outlet", type := 9, offset := 0, embedded := false, tag := "", pkgPath := "", byteOffset := 0 }, { name := "Product", type := 9, offset := 1, embedded := false, tag := "", pkgPath := "", byteOffset := 16 }, { name := "Period", type := 3, offset := 2, embedded := false, tag := "", pkgPath := "", byteOffset := 32 }, { name := "Day", type := 3, offset := 3, embedded := false, tag := "", pkgPath := "", byteOffset := 40 }, { name := "Status", type := 3, offset := 4, embedded := false, tag := "", pkgPath := "", byteOffset := 48 }, { name := "Price", type := 2, offset := 5, embedded := false, tag := "", pkgPath := "", byteOffset := 56 }, { name := "Replacement", type := 9, offset := 6, embedded := false, tag := "", pkgPath := "", byteOffset := 64 }], sz := 7, bytes := 80, zero := Value.agg #[Value.string { data := #[] }, Value.string { data := #[] }, Value.int IntKind.i64 0, Value.int IntKind.i64 0, Value.int IntKind.i64 0, Value.int IntKind.i64 0, Value.string { data := #[] }], cmp := true }),
  (52, { desc := TypeDesc.struct #[{ name := "Outlet", type := 9, offset := 0, embedded := false, tag := "", pkgPath := "", byteOffset := 0 }, { name := "Product", type := 9, offset := 1, embedded := false, tag := "", pkgPath := "", byteOffset := 16 }, { name := "Period", type := 3, offset := 2, embedded := false, tag := "", pkgPath := "", byteOffset := 32 }, { name := "Day", type := 3, offset := 3, embedded := false, tag := "", pkgPath := "", byteOffset := 40 }, { name := "Status", type := 3, offset := 4, embedded := false, tag := "", pkgPath := "", byteOffset := 48 }, { name := "Price", type := 2, offset := 5, embedded := false, tag := "", pkgPath := "", byteOffset := 56 }, { name := "Replacement", type := 9, offset := 6, embedded := false, tag := "", pkgPath := "", byteOffset := 64 }], sz := 7, bytes := 80, zero := Value.agg #[Value.string { data := #[] }, Value.string { data := #[] }, Value.int IntKind.i64 0, Value.int IntKind.i64 0, Value.int IntKind.i64 0, Value.int IntKind.i64 0, Value.string { data := #[] }], cmp := true }),
  (53, { desc := TypeDesc.struct #[{ name := "Outlet", type := 9, offset := 0, embedded := false, tag := "", pkgPath := "", byteOffset := 0 }, { name := "Product", type := 9, offset := 1, embedded := false, tag := "", pkgPath := "", byteOffset := 16 }, { name := "Period", type := 3, offset := 2, embedded := false, tag := "", pkgPath := "", byteOffset := 32 }, { name := "Device", type := 9, offset := 3, embedded := false, tag := "", pkgPath := "", byteOffset := 40 }, { name := "Number", type := 3, offset := 4, embedded := false, tag := "", pkgPath := "", byteOffset := 56 }], sz := 5, bytes := 64, zero := Value.agg #[Value.string { data := #[] }, Value.string { data := #[] }, Value.int IntKind.i64 0, Value.string { data := #[] }, Value.int IntKind.i64 0], cmp := true }),
  (54, { desc := TypeDesc.struct #[{ name := "Outlet", type := 9, offset := 0, embedded := false, tag := "", pkgPath := "", byteOffset := 0 }, { name := "Product", type := 9, offset := 1, embedded := false, tag := "", pkgPath := "", byteOffset := 16 }, { name := "Period", type := 3, offset := 2, embedded := false, tag := "", pkgPath := "", byteOffset := 32 }, { name := "Device", type := 9, offset := 3, embedded := false, tag := "", pkgPath := "", byteOffset := 40 }, { name := "Number", type := 3, offset := 4, embedded := false, tag := "", pkgPath := "", byteOffset := 56 }], sz := 5, bytes := 64, zero := Value.agg #[Value.string { data := #[] }, Value.string { data := #[] }, Value.int IntKind.i64 0, Value.string { data := #[] }, Value.int IntKind.i64 0], cmp := true }),
  (55, { desc := TypeDesc.struct #[{ name := "Device", type := 9, offset := 0, embedded := false, tag := "", pkgPath := "", byteOffset := 0 }, { name := "Sequence", type := 3, offset := 1, embedded := false, tag := "", pkgPath := "", byteOffset := 16 }, { name := "Kind", type := 3, offset := 2, embedded := false, tag := "", pkgPath := "", byteOffset := 24 }, { name := "Visit", type := 52, offset := 3, embedded := false, tag := "", pkgPath := "", byteOffset := 32 }, { name := "Decision", type := 54, offset := 10, embedded := false, tag := "", pkgPath := "", byteOffset := 112 }], sz := 15, bytes := 176, zero := Value.agg #[Value.string { data := #[] }, Value.int IntKind.i64 0, Value.int IntKind.i64 0, Value.string { data := #[] }, Value.string { data := #[] }, Value.int IntKind.i64 0, Value.int IntKind.i64 0, Value.int IntKind.i64 0, Value.int IntKind.i64 0, Value.string { data := #[] }, Value.string { data := #[] }, Value.string { data := #[] }, Value.int IntKind.i64 0, Value.string { data := #[] }, Value.int IntKind.i64 0], cmp := true }),
  (56, { desc := TypeDesc.struct #[{ name := "Device", type := 9, offset := 0, embedded := false, tag := "", pkgPath := "", byteOffset := 0 }, { name := "Sequence", type := 3, offset := 1, embedded := false, tag := "", pkgPath := "", byteOffset := 16 }, { name := "Kind", type := 3, offset := 2, embedded := false, tag := "", pkgPath := "", byteOffset := 24 }, { name := "Visit", type := 52, offset := 3, embedded := false, tag := "", pkgPath := "", byteOffset := 32 }, { name := "Decision", type := 54, offset := 10, embedded := false, tag := "", pkgPath := "", byteOffset := 112 }], sz := 15, bytes := 176, zero := Value.agg #[Value.string { data := #[] }, Value.int IntKind.i64 0, Value.int IntKind.i64 0, Value.string { data := #[] }, Value.string { data := #[] }, Value.int IntKind.i64 0, Value.int IntKind.i64 0, Value.int IntKind.i64 0, Value.int IntKind.i64 0, Value.string { data := #[] }, Value.string { data := #[] }, Value.string { data := #[] }, Value.int IntKind.i64 0, Value.string { data := #[] }, Value.int IntKind.i64 0], cmp := true }),
  (57, { desc := TypeDesc.func #[26] #[56] false, sz := 1, bytes := 8, zero := Value.nilFunc, cmp := false }),
  (58, { desc := TypeDesc.slice 56, sz := 1, bytes := 24, zero := Value.slice none 0 0, cmp := false }),
  (59, { desc := TypeDesc.func #[58] #[58] false, sz := 1, bytes := 8, zero := Value.nilFunc, cmp := false }),
  (60, { desc := TypeDesc.func #[56] #[30] false, sz := 1, bytes := 8, zero := Value.nilFunc, cmp := false }),
  (61, { desc := TypeDesc.func #[56, 23] #[4] false, sz := 1, bytes := 8, zero := Value.nilFunc, cmp := false }),
  (62, { desc := TypeDesc.func #[26] #[58] false, sz := 1, bytes := 8, zero := Value.nilFunc, cmp := false }),
  (63, { desc := TypeDesc.func #[58, 58] #[4] false, sz := 1, bytes := 8, zero := Value.nilFunc, cmp := false }),
  (64, { desc := TypeDesc.func #[58, 58] #[58] false, sz := 1, bytes := 8, zero := Value.nilFunc, cmp := false }),
  (65, { desc := TypeDesc.func #[58, 58, 23] #[4] false, sz := 1, bytes := 8, zero := Value.nilFunc, cmp := false }),
  (66, { desc := TypeDesc.func #[26, 58] #[58] false, sz := 1, bytes := 8, zero := Value.nilFunc, cmp := false }),
  (67, { desc := TypeDesc.tuple #[52, 3], sz := 1, bytes := 0, zero := Value.tuple #[Value.agg #[Value.string { data := #[] }, Value.string { data := #[] }, Value.int IntKind.i64 0, Value.int IntKind.i64 0, Value.int IntKind.i64 0, Value.int IntKind.i64 0, Value.string { data := #[] }], Value.int IntKind.i64 0], cmp := false }),
  (68, { desc := TypeDesc.func #[58, 9, 9, 3] #[52, 3] false, sz := 1, bytes := 8, zero := Value.nilFunc, cmp := false }),
  (69, { desc := TypeDesc.func #[58, 9, 9, 3, 23] #[4] false, sz := 1, bytes := 8, zero := Value.nilFunc, cmp := false }),
  (70, { desc := TypeDesc.func #[3] #[9] false, sz := 1, bytes := 8, zero := Value.nilFunc, cmp := false }),
  (71, { desc := TypeDesc.func #[] #[9] false, sz := 1, bytes := 8, zero := Value.nilFunc, cmp := false }),
  (72, { desc := TypeDesc.func #[] #[52] false, sz := 1, bytes := 8, zero := Value.nilFunc, cmp := false }),
  (73, { desc := TypeDesc.func #[] #[56] false, sz := 1, bytes := 8, zero := Value.nilFunc, cmp := false }),
  (74, { desc := TypeDesc.func #[3, 23] #[4] false, sz := 1, bytes := 8, zero := Value.nilFunc, cmp := false }),
  (75, { desc := TypeDesc.func #[58, 9, 9, 3] #[58] false, sz := 1, bytes := 8, zero := Value.nilFunc, cmp := false }),
  (76, { desc := TypeDesc.slice 79, sz := 1, bytes := 24, zero := Value.slice none 0 0, cmp := false }),
  (77, { desc := TypeDesc.func #[58] #[76] false, sz := 1, bytes := 8, zero := Value.nilFunc, cmp := false }),
  (78, { desc := TypeDesc.struct #[{ name := "Device", type := 9, offset := 0, embedded := false, tag := "", pkgPath := "", byteOffset := 0 }, { name := "Sequence", type := 3, offset := 1, embedded := false, tag := "", pkgPath := "", byteOffset := 16 }], sz := 2, bytes := 24, zero := Value.agg #[Value.string { data := #[] }, Value.int IntKind.i64 0], cmp := true }),
  (79, { desc := TypeDesc.struct #[{ name := "Device", type := 9, offset := 0, embedded := false, tag := "", pkgPath := "", byteOffset := 0 }, { name := "Sequence", type := 3, offset := 1, embedded := false, tag := "", pkgPath := "", byteOffset := 16 }], sz := 2, bytes := 24, zero := Value.agg #[Value.string { data := #[] }, Value.int IntKind.i64 0], cmp := true }),
  (80, { desc := TypeDesc.slice 9, sz := 1, bytes := 24, zero := Value.slice none 0 0, cmp := false }),
  (81, { desc := TypeDesc.slice 2, sz := 1, bytes := 24, zero := Value.slice none 0 0, cmp := false }),
  (82, { desc := TypeDesc.map 84 39, sz := 1, bytes := 8, zero := Value.map none, cmp := false }),
  (83, { desc := TypeDesc.struct #[{ name := "outlet", type := 9, offset := 0, embedded := false, tag := "", pkgPath := "priceoffice/scanner", byteOffset := 0 }, { name := "product", type := 9, offset := 1, embedded := false, tag := "", pkgPath := "priceoffice/scanner", byteOffset := 16 }, { name := "period", type := 3, offset := 2, embedded := false, tag := "", pkgPath := "priceoffice/scanner", byteOffset := 32 }], sz := 3, bytes := 40, zero := Value.agg #[Value.string { data := #[] }, Value.string { data := #[] }, Value.int IntKind.i64 0], cmp := true }),
  (84, { desc := TypeDesc.struct #[{ name := "outlet", type := 9, offset := 0, embedded := false, tag := "", pkgPath := "priceoffice/scanner", byteOffset := 0 }, { name := "product", type := 9, offset := 1, embedded := false, tag := "", pkgPath := "priceoffice/scanner", byteOffset := 16 }, { name := "period", type := 3, offset := 2, embedded := false, tag := "", pkgPath := "priceoffice/scanner", byteOffset := 32 }], sz := 3, bytes := 40, zero := Value.agg #[Value.string { data := #[] }, Value.string { data := #[] }, Value.int IntKind.i64 0], cmp := true }),
  (85, { desc := TypeDesc.func #[22, 88] #[] false, sz := 1, bytes := 8, zero := Value.nilFunc, cmp := false }),
  (86, { desc := TypeDesc.func #[23] #[3] true, sz := 1, bytes := 8, zero := Value.nilFunc, cmp := false }),
  (87, { desc := TypeDesc.func #[9, 9] #[3] false, sz := 1, bytes := 8, zero := Value.nilFunc, cmp := false }),
  (88, { desc := TypeDesc.func #[39, 39] #[3] false, sz := 1, bytes := 8, zero := Value.nilFunc, cmp := false }),
  (89, { desc := TypeDesc.func #[39, 39] #[4] false, sz := 1, bytes := 8, zero := Value.nilFunc, cmp := false }),
  (90, { desc := TypeDesc.func #[39] #[4] false, sz := 1, bytes := 8, zero := Value.nilFunc, cmp := false }),
  (91, { desc := TypeDesc.int IntKind.u64, sz := 1, bytes := 8, zero := Value.int IntKind.u64 0, cmp := false }),
  (92, { desc := TypeDesc.struct #[{ name := "Dimension", type := 3, offset := 0, embedded := false, tag := "", pkgPath := "", byteOffset := 0 }, { name := "Count", type := 3, offset := 1, embedded := false, tag := "", pkgPath := "", byteOffset := 8 }, { name := "Amount", type := 2, offset := 2, embedded := false, tag := "", pkgPath := "", byteOffset := 16 }], sz := 3, bytes := 24, zero := Value.agg #[Value.int IntKind.i64 0, Value.int IntKind.i64 0, Value.int IntKind.i64 0], cmp := true }),
  (93, { desc := TypeDesc.struct #[{ name := "Dimension", type := 3, offset := 0, embedded := false, tag := "", pkgPath := "", byteOffset := 0 }, { name := "Count", type := 3, offset := 1, embedded := false, tag := "", pkgPath := "", byteOffset := 8 }, { name := "Amount", type := 2, offset := 2, embedded := false, tag := "", pkgPath := "", byteOffset := 16 }], sz := 3, bytes := 24, zero := Value.agg #[Value.int IntKind.i64 0, Value.int IntKind.i64 0, Value.int IntKind.i64 0], cmp := true }),
  (94, { desc := TypeDesc.slice 122, sz := 1, bytes := 24, zero := Value.slice none 0 0, cmp := false }),
  (95, { desc := TypeDesc.struct #[{ name := "ID", type := 9, offset := 0, embedded := false, tag := "", pkgPath := "", byteOffset := 0 }, { name := "Code", type := 9, offset := 1, embedded := false, tag := "", pkgPath := "", byteOffset := 16 }, { name := "Brand", type := 9, offset := 2, embedded := false, tag := "", pkgPath := "", byteOffset := 32 }, { name := "Size", type := 93, offset := 3, embedded := false, tag := "", pkgPath := "", byteOffset := 48 }, { name := "Attributes", type := 94, offset := 6, embedded := false, tag := "", pkgPath := "", byteOffset := 72 }], sz := 7, bytes := 96, zero := Value.agg #[Value.string { data := #[] }, Value.string { data := #[] }, Value.string { data := #[] }, Value.int IntKind.i64 0, Value.int IntKind.i64 0, Value.int IntKind.i64 0, Value.slice none 0 0], cmp := true }),
  (96, { desc := TypeDesc.struct #[{ name := "ID", type := 9, offset := 0, embedded := false, tag := "", pkgPath := "", byteOffset := 0 }, { name := "Code", type := 9, offset := 1, embedded := false, tag := "", pkgPath := "", byteOffset := 16 }, { name := "Brand", type := 9, offset := 2, embedded := false, tag := "", pkgPath := "", byteOffset := 32 }, { name := "Size", type := 93, offset := 3, embedded := false, tag := "", pkgPath := "", byteOffset := 48 }, { name := "Attributes", type := 94, offset := 6, embedded := false, tag := "", pkgPath := "", byteOffset := 72 }], sz := 7, bytes := 96, zero := Value.agg #[Value.string { data := #[] }, Value.string { data := #[] }, Value.string { data := #[] }, Value.int IntKind.i64 0, Value.int IntKind.i64 0, Value.int IntKind.i64 0, Value.slice none 0 0], cmp := true }),
  (97, { desc := TypeDesc.func #[3] #[96] false, sz := 1, bytes := 8, zero := Value.nilFunc, cmp := false }),
  (98, { desc := TypeDesc.map 9 2, sz := 1, bytes := 8, zero := Value.map none, cmp := false }),
  (99, { desc := TypeDesc.func #[22, 3] #[98] false, sz := 1, bytes := 8, zero := Value.nilFunc, cmp := false }),
  (100, { desc := TypeDesc.tuple #[96, 4], sz := 1, bytes := 0, zero := Value.tuple #[Value.agg #[Value.string { data := #[] }, Value.string { data := #[] }, Value.string { data := #[] }, Value.int IntKind.i64 0, Value.int IntKind.i64 0, Value.int IntKind.i64 0, Value.slice none 0 0], Value.bool false], cmp := false }),
  (101, { desc := TypeDesc.func #[44, 9] #[96, 4] false, sz := 1, bytes := 8, zero := Value.nilFunc, cmp := false }),
  (102, { desc := TypeDesc.func #[9] #[4] false, sz := 1, bytes := 8, zero := Value.nilFunc, cmp := false }),
  (103, { desc := TypeDesc.func #[52] #[4] false, sz := 1, bytes := 8, zero := Value.nilFunc, cmp := false }),
  (104, { desc := TypeDesc.func #[9, 9, 3] #[4] false, sz := 1, bytes := 8, zero := Value.nilFunc, cmp := false }),
  (105, { desc := TypeDesc.func #[54] #[4] false, sz := 1, bytes := 8, zero := Value.nilFunc, cmp := false }),
  (106, { desc := TypeDesc.func #[3] #[58] false, sz := 1, bytes := 8, zero := Value.nilFunc, cmp := false }),
  (107, { desc := TypeDesc.func #[127] #[58] true, sz := 1, bytes := 8, zero := Value.nilFunc, cmp := false }),
  (108, { desc := TypeDesc.func #[58, 109] #[] false, sz := 1, bytes := 8, zero := Value.nilFunc, cmp := false }),
  (109, { desc := TypeDesc.func #[56, 56] #[3] false, sz := 1, bytes := 8, zero := Value.nilFunc, cmp := false }),
  (110, { desc := TypeDesc.func #[58, 111] #[4] false, sz := 1, bytes := 8, zero := Value.nilFunc, cmp := false }),
  (111, { desc := TypeDesc.func #[56] #[4] false, sz := 1, bytes := 8, zero := Value.nilFunc, cmp := false }),
  (112, { desc := TypeDesc.func #[58, 111] #[3] false, sz := 1, bytes := 8, zero := Value.nilFunc, cmp := false }),
  (113, { desc := TypeDesc.func #[56] #[79] false, sz := 1, bytes := 8, zero := Value.nilFunc, cmp := false }),
  (114, { desc := TypeDesc.slice 5, sz := 1, bytes := 24, zero := Value.slice none 0 0, cmp := false }),
  (115, { desc := TypeDesc.tuple #[3, 4], sz := 1, bytes := 0, zero := Value.tuple #[Value.int IntKind.i64 0, Value.bool false], cmp := false }),
  (116, { desc := TypeDesc.func #[9] #[3, 4] false, sz := 1, bytes := 8, zero := Value.nilFunc, cmp := false }),
  (117, { desc := TypeDesc.func #[52, 9, 9, 3] #[4] false, sz := 1, bytes := 8, zero := Value.nilFunc, cmp := false }),
  (118, { desc := TypeDesc.func #[22, 3, 3, 3, 88] #[] false, sz := 1, bytes := 8, zero := Value.nilFunc, cmp := false }),
  (119, { desc := TypeDesc.func #[120] #[3] false, sz := 1, bytes := 8, zero := Value.nilFunc, cmp := false }),
  (120, { desc := TypeDesc.int IntKind.u64, sz := 1, bytes := 8, zero := Value.int IntKind.u64 0, cmp := false }),
  (121, { desc := TypeDesc.struct #[{ name := "Name", type := 9, offset := 0, embedded := false, tag := "", pkgPath := "", byteOffset := 0 }, { name := "Value", type := 9, offset := 1, embedded := false, tag := "", pkgPath := "", byteOffset := 16 }], sz := 2, bytes := 32, zero := Value.agg #[Value.string { data := #[] }, Value.string { data := #[] }], cmp := true }),
  (122, { desc := TypeDesc.struct #[{ name := "Name", type := 9, offset := 0, embedded := false, tag := "", pkgPath := "", byteOffset := 0 }, { name := "Value", type := 9, offset := 1, embedded := false, tag := "", pkgPath := "", byteOffset := 16 }], sz := 2, bytes := 32, zero := Value.agg #[Value.string { data := #[] }, Value.string { data := #[] }], cmp := true }),
  (123, { desc := TypeDesc.func #[44, 124] #[3] false, sz := 1, bytes := 8, zero := Value.nilFunc, cmp := false }),
  (124, { desc := TypeDesc.func #[96] #[4] false, sz := 1, bytes := 8, zero := Value.nilFunc, cmp := false }),
  (125, { desc := TypeDesc.func #[94] #[94] false, sz := 1, bytes := 8, zero := Value.nilFunc, cmp := false }),
  (126, { desc := TypeDesc.func #[96] #[30] false, sz := 1, bytes := 8, zero := Value.nilFunc, cmp := false }),
  (127, { desc := TypeDesc.slice 58, sz := 1, bytes := 24, zero := Value.slice none 0 0, cmp := false }),
  (128, { desc := TypeDesc.func #[58, 3] #[58] false, sz := 1, bytes := 8, zero := Value.nilFunc, cmp := false }),
  (129, { desc := TypeDesc.func #[58, 3, 3, 3, 109] #[] false, sz := 1, bytes := 8, zero := Value.nilFunc, cmp := false }),
  (130, { desc := TypeDesc.func #[2, 2] #[3] false, sz := 1, bytes := 8, zero := Value.nilFunc, cmp := false }),
  (131, { desc := TypeDesc.map 79 3, sz := 1, bytes := 8, zero := Value.map none, cmp := false }),
  (132, { desc := TypeDesc.func #[58] #[131] false, sz := 1, bytes := 8, zero := Value.nilFunc, cmp := false }),
  (133, { desc := TypeDesc.func #[58, 111] #[58] false, sz := 1, bytes := 8, zero := Value.nilFunc, cmp := false }),
  (134, { desc := TypeDesc.func #[56, 56] #[4] false, sz := 1, bytes := 8, zero := Value.nilFunc, cmp := false }),
  (135, { desc := TypeDesc.func #[22, 3, 3, 88] #[] false, sz := 1, bytes := 8, zero := Value.nilFunc, cmp := false }),
  (136, { desc := TypeDesc.int IntKind.i64, sz := 1, bytes := 8, zero := Value.int IntKind.i64 0, cmp := false }),
  (137, { desc := TypeDesc.tuple #[3, 136], sz := 1, bytes := 0, zero := Value.tuple #[Value.int IntKind.i64 0, Value.int IntKind.i64 0], cmp := false }),
  (138, { desc := TypeDesc.func #[22, 3, 3, 88] #[3, 136] false, sz := 1, bytes := 8, zero := Value.nilFunc, cmp := false }),
  (139, { desc := TypeDesc.func #[22, 3, 3, 88] #[4] false, sz := 1, bytes := 8, zero := Value.nilFunc, cmp := false }),
  (140, { desc := TypeDesc.func #[22, 3, 3, 3, 88] #[3] false, sz := 1, bytes := 8, zero := Value.nilFunc, cmp := false }),
  (141, { desc := TypeDesc.func #[22, 3, 3, 3, 88] #[3, 4] false, sz := 1, bytes := 8, zero := Value.nilFunc, cmp := false }),
  (142, { desc := TypeDesc.func #[143] #[3] false, sz := 1, bytes := 8, zero := Value.nilFunc, cmp := false }),
  (143, { desc := TypeDesc.int IntKind.u32, sz := 1, bytes := 4, zero := Value.int IntKind.u32 0, cmp := false }),
  (144, { desc := TypeDesc.func #[91] #[3] false, sz := 1, bytes := 8, zero := Value.nilFunc, cmp := false }),
  (145, { desc := TypeDesc.func #[9, 3, 3] #[4] false, sz := 1, bytes := 8, zero := Value.nilFunc, cmp := false }),
  (146, { desc := TypeDesc.func #[9] #[3] false, sz := 1, bytes := 8, zero := Value.nilFunc, cmp := false }),
  (147, { desc := TypeDesc.func #[93] #[30] false, sz := 1, bytes := 8, zero := Value.nilFunc, cmp := false }),
  (148, { desc := TypeDesc.map 9 4, sz := 1, bytes := 8, zero := Value.map none, cmp := false }),
  (149, { desc := TypeDesc.func #[58, 3, 3, 109] #[] false, sz := 1, bytes := 8, zero := Value.nilFunc, cmp := false }),
  (150, { desc := TypeDesc.func #[58, 3, 3, 109] #[3, 136] false, sz := 1, bytes := 8, zero := Value.nilFunc, cmp := false }),
  (151, { desc := TypeDesc.func #[58, 3, 3, 109] #[4] false, sz := 1, bytes := 8, zero := Value.nilFunc, cmp := false }),
  (152, { desc := TypeDesc.func #[58, 3, 3, 3, 109] #[3] false, sz := 1, bytes := 8, zero := Value.nilFunc, cmp := false }),
  (153, { desc := TypeDesc.func #[58, 3, 3, 3, 109] #[3, 4] false, sz := 1, bytes := 8, zero := Value.nilFunc, cmp := false }),
  (154, { desc := TypeDesc.func #[2] #[4] false, sz := 1, bytes := 8, zero := Value.nilFunc, cmp := false }),
  (155, { desc := TypeDesc.int IntKind.u64, sz := 1, bytes := 8, zero := Value.int IntKind.u64 0, cmp := false }),
  (156, { desc := TypeDesc.func #[3] #[120] false, sz := 1, bytes := 8, zero := Value.nilFunc, cmp := false }),
  (157, { desc := TypeDesc.func #[] #[91] false, sz := 1, bytes := 8, zero := Value.nilFunc, cmp := false }),
  (158, { desc := TypeDesc.func #[22, 3, 159, 88] #[3] false, sz := 1, bytes := 8, zero := Value.nilFunc, cmp := false }),
  (159, { desc := TypeDesc.pointer 3, sz := 1, bytes := 8, zero := Value.pointer none, cmp := false }),
  (160, { desc := TypeDesc.func #[22, 3, 3, 3, 159, 88] #[3] false, sz := 1, bytes := 8, zero := Value.nilFunc, cmp := false }),
  (161, { desc := TypeDesc.func #[9, 9] #[9] false, sz := 1, bytes := 8, zero := Value.nilFunc, cmp := false }),
  (162, { desc := TypeDesc.tuple #[23, 30], sz := 1, bytes := 0, zero := Value.tuple #[Value.slice none 0 0, Value.int IntKind.i64 0], cmp := false }),
  (163, { desc := TypeDesc.func #[9] #[23, 30] false, sz := 1, bytes := 8, zero := Value.nilFunc, cmp := false }),
  (164, { desc := TypeDesc.func #[9, 166] #[4] false, sz := 1, bytes := 8, zero := Value.nilFunc, cmp := false }),
  (165, { desc := TypeDesc.func #[9, 21] #[4] false, sz := 1, bytes := 8, zero := Value.nilFunc, cmp := false }),
  (166, { desc := TypeDesc.func #[21] #[4] false, sz := 1, bytes := 8, zero := Value.nilFunc, cmp := false }),
  (167, { desc := TypeDesc.func #[58, 3, 159, 109] #[3] false, sz := 1, bytes := 8, zero := Value.nilFunc, cmp := false }),
  (168, { desc := TypeDesc.func #[58, 3, 3, 3, 159, 109] #[3] false, sz := 1, bytes := 8, zero := Value.nilFunc, cmp := false }),
  (169, { desc := TypeDesc.pointer 155, sz := 1, bytes := 8, zero := Value.pointer none, cmp := false }),
  (170, { desc := TypeDesc.tuple #[3, 3], sz := 1, bytes := 0, zero := Value.tuple #[Value.int IntKind.i64 0, Value.int IntKind.i64 0], cmp := false }),
  (171, { desc := TypeDesc.func #[22, 3, 3, 159, 88] #[3, 3] false, sz := 1, bytes := 8, zero := Value.nilFunc, cmp := false }),
  (172, { desc := TypeDesc.func #[9, 5] #[9] false, sz := 1, bytes := 8, zero := Value.nilFunc, cmp := false }),
  (176, { desc := TypeDesc.func #[9] #[174, 4] false, sz := 1, bytes := 8, zero := Value.nilFunc, cmp := false }),
  (177, { desc := TypeDesc.func #[9, 178] #[9] false, sz := 1, bytes := 8, zero := Value.nilFunc, cmp := false }),
  (178, { desc := TypeDesc.pointer 174, sz := 1, bytes := 8, zero := Value.pointer none, cmp := false }),
  (179, { desc := TypeDesc.func #[9, 9] #[80] false, sz := 1, bytes := 8, zero := Value.nilFunc, cmp := false }),
  (180, { desc := TypeDesc.interface #[("Error", 71)], sz := 1, bytes := 16, zero := Value.nilIface, cmp := false }),
  (181, { desc := TypeDesc.interface #[("Error", 71)], sz := 1, bytes := 16, zero := Value.nilIface, cmp := false }),
  (182, { desc := TypeDesc.tuple #[3, 181], sz := 1, bytes := 0, zero := Value.tuple #[Value.int IntKind.i64 0, Value.nilIface], cmp := false }),
  (183, { desc := TypeDesc.func #[9] #[3, 181] false, sz := 1, bytes := 8, zero := Value.nilFunc, cmp := false }),
  (184, { desc := TypeDesc.tuple #[9, 30], sz := 1, bytes := 0, zero := Value.tuple #[Value.string { data := #[] }, Value.int IntKind.i64 0], cmp := false }),
  (185, { desc := TypeDesc.func #[23] #[9, 30] false, sz := 1, bytes := 8, zero := Value.nilFunc, cmp := false }),
  (186, { desc := TypeDesc.func #[9, 166] #[3] false, sz := 1, bytes := 8, zero := Value.nilFunc, cmp := false }),
  (187, { desc := TypeDesc.func #[9, 21] #[3] false, sz := 1, bytes := 8, zero := Value.nilFunc, cmp := false }),
  (188, { desc := TypeDesc.func #[58, 3, 3, 159, 109] #[3, 3] false, sz := 1, bytes := 8, zero := Value.nilFunc, cmp := false }),
  (189, { desc := TypeDesc.func #[5] #[4] false, sz := 1, bytes := 8, zero := Value.nilFunc, cmp := false }),
  (190, { desc := TypeDesc.tuple #[21, 3], sz := 1, bytes := 0, zero := Value.tuple #[Value.int IntKind.i32 0, Value.int IntKind.i64 0], cmp := false }),
  (191, { desc := TypeDesc.func #[9] #[21, 3] false, sz := 1, bytes := 8, zero := Value.nilFunc, cmp := false }),
  (192, { desc := TypeDesc.func #[9, 9, 3, 3] #[80] false, sz := 1, bytes := 8, zero := Value.nilFunc, cmp := false }),
  (193, { desc := TypeDesc.func #[9, 9, 3, 3, 181] #[181] false, sz := 1, bytes := 8, zero := Value.nilFunc, cmp := false }),
  (194, { desc := TypeDesc.func #[23] #[3] false, sz := 1, bytes := 8, zero := Value.nilFunc, cmp := false }),
  (195, { desc := TypeDesc.func #[9, 166, 4] #[3] false, sz := 1, bytes := 8, zero := Value.nilFunc, cmp := false }),
  (196, { desc := TypeDesc.func #[9, 5] #[3] false, sz := 1, bytes := 8, zero := Value.nilFunc, cmp := false }),
  (197, { desc := TypeDesc.func #[9, 3] #[80] false, sz := 1, bytes := 8, zero := Value.nilFunc, cmp := false }),
  (198, { desc := TypeDesc.int IntKind.i64, sz := 1, bytes := 8, zero := Value.int IntKind.i64 0, cmp := false }),
  (199, { desc := TypeDesc.tuple #[2, 181], sz := 1, bytes := 0, zero := Value.tuple #[Value.int IntKind.i64 0, Value.nilIface], cmp := false }),
  (200, { desc := TypeDesc.func #[9, 3, 3] #[2, 181] false, sz := 1, bytes := 8, zero := Value.nilFunc, cmp := false }),
  (201, { desc := TypeDesc.pointer 212, sz := 1, bytes := 8, zero := Value.pointer none, cmp := false }),
  (202, { desc := TypeDesc.func #[9, 9] #[201] false, sz := 1, bytes := 8, zero := Value.nilFunc, cmp := false }),
  (203, { desc := TypeDesc.func #[9, 9, 3] #[201] false, sz := 1, bytes := 8, zero := Value.nilFunc, cmp := false }),
  (205, { desc := TypeDesc.struct #[{ name := "lo", type := 5, offset := 0, embedded := false, tag := "", pkgPath := "unicode/utf8", byteOffset := 0 }, { name := "hi", type := 5, offset := 1, embedded := false, tag := "", pkgPath := "unicode/utf8", byteOffset := 1 }], sz := 2, bytes := 2, zero := Value.agg #[Value.int IntKind.u8 0, Value.int IntKind.u8 0], cmp := true }),
  (206, { desc := TypeDesc.struct #[{ name := "lo", type := 5, offset := 0, embedded := false, tag := "", pkgPath := "unicode/utf8", byteOffset := 0 }, { name := "hi", type := 5, offset := 1, embedded := false, tag := "", pkgPath := "unicode/utf8", byteOffset := 1 }], sz := 2, bytes := 2, zero := Value.agg #[Value.int IntKind.u8 0, Value.int IntKind.u8 0], cmp := true }),
  (207, { desc := TypeDesc.array 16 206, sz := 32, bytes := 32, zero := Value.agg #[Value.int IntKind.u8 0, Value.int IntKind.u8 0, Value.int IntKind.u8 0, Value.int IntKind.u8 0, Value.int IntKind.u8 0, Value.int IntKind.u8 0, Value.int IntKind.u8 0, Value.int IntKind.u8 0, Value.int IntKind.u8 0, Value.int IntKind.u8 0, Value.int IntKind.u8 0, Value.int IntKind.u8 0, Value.int IntKind.u8 0, Value.int IntKind.u8 0, Value.int IntKind.u8 0, Value.int IntKind.u8 0, Value.int IntKind.u8 0, Value.int IntKind.u8 0, Value.int IntKind.u8 0, Value.int IntKind.u8 0, Value.int IntKind.u8 0, Value.int IntKind.u8 0, Value.int IntKind.u8 0, Value.int IntKind.u8 0, Value.int IntKind.u8 0, Value.int IntKind.u8 0, Value.int IntKind.u8 0, Value.int IntKind.u8 0, Value.int IntKind.u8 0, Value.int IntKind.u8 0, Value.int IntKind.u8 0, Value.int IntKind.u8 0], cmp := false }),
  (208, { desc := TypeDesc.tuple #[91, 181], sz := 1, bytes := 0, zero := Value.tuple #[Value.int IntKind.u64 0, Value.nilIface], cmp := false }),
  (209, { desc := TypeDesc.func #[9, 3, 3] #[91, 181] false, sz := 1, bytes := 8, zero := Value.nilFunc, cmp := false }),
  (210, { desc := TypeDesc.func #[9] #[9] false, sz := 1, bytes := 8, zero := Value.nilFunc, cmp := false }),
  (211, { desc := TypeDesc.struct #[{ name := "Func", type := 9, offset := 0, embedded := false, tag := "", pkgPath := "", byteOffset := 0 }, { name := "Num", type := 9, offset := 1, embedded := false, tag := "", pkgPath := "", byteOffset := 16 }, { name := "Err", type := 181, offset := 2, embedded := false, tag := "", pkgPath := "", byteOffset := 32 }], sz := 3, bytes := 48, zero := Value.agg #[Value.string { data := #[] }, Value.string { data := #[] }, Value.nilIface], cmp := false }),
  (212, { desc := TypeDesc.struct #[{ name := "Func", type := 9, offset := 0, embedded := false, tag := "", pkgPath := "", byteOffset := 0 }, { name := "Num", type := 9, offset := 1, embedded := false, tag := "", pkgPath := "", byteOffset := 16 }, { name := "Err", type := 181, offset := 2, embedded := false, tag := "", pkgPath := "", byteOffset := 32 }], sz := 3, bytes := 48, zero := Value.agg #[Value.string { data := #[] }, Value.string { data := #[] }, Value.nilIface], cmp := false }),
  (213, { desc := TypeDesc.func #[9] #[181] false, sz := 1, bytes := 8, zero := Value.nilFunc, cmp := false }),
  (214, { desc := TypeDesc.func #[2, 3] #[9] false, sz := 1, bytes := 8, zero := Value.nilFunc, cmp := false }),
  (215, { desc := TypeDesc.func #[5] #[5] false, sz := 1, bytes := 8, zero := Value.nilFunc, cmp := false }),
  (216, { desc := TypeDesc.pointer 5, sz := 1, bytes := 8, zero := Value.pointer none, cmp := false }),
  (217, { desc := TypeDesc.pointer 219, sz := 1, bytes := 8, zero := Value.pointer none, cmp := false }),
  (218, { desc := TypeDesc.struct #[{ name := "s", type := 9, offset := 0, embedded := false, tag := "", pkgPath := "errors", byteOffset := 0 }], sz := 1, bytes := 16, zero := Value.agg #[Value.string { data := #[] }], cmp := true }),
  (219, { desc := TypeDesc.struct #[{ name := "s", type := 9, offset := 0, embedded := false, tag := "", pkgPath := "errors", byteOffset := 0 }], sz := 1, bytes := 16, zero := Value.agg #[Value.string { data := #[] }], cmp := true }),
  (220, { desc := TypeDesc.array 24 5, sz := 24, bytes := 24, zero := Value.agg #[Value.int IntKind.u8 0, Value.int IntKind.u8 0, Value.int IntKind.u8 0, Value.int IntKind.u8 0, Value.int IntKind.u8 0, Value.int IntKind.u8 0, Value.int IntKind.u8 0, Value.int IntKind.u8 0, Value.int IntKind.u8 0, Value.int IntKind.u8 0, Value.int IntKind.u8 0, Value.int IntKind.u8 0, Value.int IntKind.u8 0, Value.int IntKind.u8 0, Value.int IntKind.u8 0, Value.int IntKind.u8 0, Value.int IntKind.u8 0, Value.int IntKind.u8 0, Value.int IntKind.u8 0, Value.int IntKind.u8 0, Value.int IntKind.u8 0, Value.int IntKind.u8 0, Value.int IntKind.u8 0, Value.int IntKind.u8 0], cmp := false }),
  (221, { desc := TypeDesc.func #[114, 91] #[] false, sz := 1, bytes := 8, zero := Value.nilFunc, cmp := false }),
  (222, { desc := TypeDesc.tuple #[114, 9], sz := 1, bytes := 0, zero := Value.tuple #[Value.slice none 0 0, Value.string { data := #[] }], cmp := false }),
  (223, { desc := TypeDesc.func #[114, 91, 3, 4, 4] #[114, 9] false, sz := 1, bytes := 8, zero := Value.nilFunc, cmp := false }),
  (224, { desc := TypeDesc.tuple #[143, 143], sz := 1, bytes := 0, zero := Value.tuple #[Value.int IntKind.u32 0, Value.int IntKind.u32 0], cmp := false }),
  (225, { desc := TypeDesc.func #[9] #[143, 143] false, sz := 1, bytes := 8, zero := Value.nilFunc, cmp := false }),
  (226, { desc := TypeDesc.func #[4] #[3] false, sz := 1, bytes := 8, zero := Value.nilFunc, cmp := false }),
  (227, { desc := TypeDesc.array 20 91, sz := 20, bytes := 160, zero := Value.agg #[Value.int IntKind.u64 0, Value.int IntKind.u64 0, Value.int IntKind.u64 0, Value.int IntKind.u64 0, Value.int IntKind.u64 0, Value.int IntKind.u64 0, Value.int IntKind.u64 0, Value.int IntKind.u64 0, Value.int IntKind.u64 0, Value.int IntKind.u64 0, Value.int IntKind.u64 0, Value.int IntKind.u64 0, Value.int IntKind.u64 0, Value.int IntKind.u64 0, Value.int IntKind.u64 0, Value.int IntKind.u64 0, Value.int IntKind.u64 0, Value.int IntKind.u64 0, Value.int IntKind.u64 0, Value.int IntKind.u64 0], cmp := false }),
  (228, { desc := TypeDesc.array 65 5, sz := 65, bytes := 65, zero := Value.agg ([Value.int IntKind.u8 0, Value.int IntKind.u8 0, Value.int IntKind.u8 0, Value.int IntKind.u8 0, Value.int IntKind.u8 0, Value.int IntKind.u8 0, Value.int IntKind.u8 0, Value.int IntKind.u8 0, Value.int IntKind.u8 0, Value.int IntKind.u8 0, Value.int IntKind.u8 0, Value.int IntKind.u8 0, Value.int IntKind.u8 0, Value.int IntKind.u8 0, Value.int IntKind.u8 0, Value.int IntKind.u8 0, Value.int IntKind.u8 0, Value.int IntKind.u8 0, Value.int IntKind.u8 0, Value.int IntKind.u8 0, Value.int IntKind.u8 0, Value.int IntKind.u8 0, Value.int IntKind.u8 0, Value.int IntKind.u8 0, Value.int IntKind.u8 0, Value.int IntKind.u8 0, Value.int IntKind.u8 0, Value.int IntKind.u8 0, Value.int IntKind.u8 0, Value.int IntKind.u8 0, Value.int IntKind.u8 0, Value.int IntKind.u8 0].append [Value.int IntKind.u8 0, Value.int IntKind.u8 0, Value.int IntKind.u8 0, Value.int IntKind.u8 0, Value.int IntKind.u8 0, Value.int IntKind.u8 0, Value.int IntKind.u8 0, Value.int IntKind.u8 0, Value.int IntKind.u8 0, Value.int IntKind.u8 0, Value.int IntKind.u8 0, Value.int IntKind.u8 0, Value.int IntKind.u8 0, Value.int IntKind.u8 0, Value.int IntKind.u8 0, Value.int IntKind.u8 0, Value.int IntKind.u8 0, Value.int IntKind.u8 0, Value.int IntKind.u8 0, Value.int IntKind.u8 0, Value.int IntKind.u8 0, Value.int IntKind.u8 0, Value.int IntKind.u8 0, Value.int IntKind.u8 0, Value.int IntKind.u8 0, Value.int IntKind.u8 0, Value.int IntKind.u8 0, Value.int IntKind.u8 0, Value.int IntKind.u8 0, Value.int IntKind.u8 0, Value.int IntKind.u8 0, Value.int IntKind.u8 0, Value.int IntKind.u8 0]).toArray, cmp := false }),
  (229, { desc := TypeDesc.array 32 5, sz := 32, bytes := 32, zero := Value.agg #[Value.int IntKind.u8 0, Value.int IntKind.u8 0, Value.int IntKind.u8 0, Value.int IntKind.u8 0, Value.int IntKind.u8 0, Value.int IntKind.u8 0, Value.int IntKind.u8 0, Value.int IntKind.u8 0, Value.int IntKind.u8 0, Value.int IntKind.u8 0, Value.int IntKind.u8 0, Value.int IntKind.u8 0, Value.int IntKind.u8 0, Value.int IntKind.u8 0, Value.int IntKind.u8 0, Value.int IntKind.u8 0, Value.int IntKind.u8 0, Value.int IntKind.u8 0, Value.int IntKind.u8 0, Value.int IntKind.u8 0, Value.int IntKind.u8 0, Value.int IntKind.u8 0, Value.int IntKind.u8 0, Value.int IntKind.u8 0, Value.int IntKind.u8 0, Value.int IntKind.u8 0, Value.int IntKind.u8 0, Value.int IntKind.u8 0, Value.int IntKind.u8 0, Value.int IntKind.u8 0, Value.int IntKind.u8 0, Value.int IntKind.u8 0], cmp := false }),
  (230, { desc := TypeDesc.array 64 5, sz := 64, bytes := 64, zero := Value.agg #[Value.int IntKind.u8 0, Value.int IntKind.u8 0, Value.int IntKind.u8 0, Value.int IntKind.u8 0, Value.int IntKind.u8 0, Value.int IntKind.u8 0, Value.int IntKind.u8 0, Value.int IntKind.u8 0, Value.int IntKind.u8 0, Value.int IntKind.u8 0, Value.int IntKind.u8 0, Value.int IntKind.u8 0, Value.int IntKind.u8 0, Value.int IntKind.u8 0, Value.int IntKind.u8 0, Value.int IntKind.u8 0, Value.int IntKind.u8 0, Value.int IntKind.u8 0, Value.int IntKind.u8 0, Value.int IntKind.u8 0, Value.int IntKind.u8 0, Value.int IntKind.u8 0, Value.int IntKind.u8 0, Value.int IntKind.u8 0, Value.int IntKind.u8 0, Value.int IntKind.u8 0, Value.int IntKind.u8 0, Value.int IntKind.u8 0, Value.int IntKind.u8 0, Value.int IntKind.u8 0, Value.int IntKind.u8 0, Value.int IntKind.u8 0, Value.int IntKind.u8 0, Value.int IntKind.u8 0, Value.int IntKind.u8 0, Value.int IntKind.u8 0, Value.int IntKind.u8 0, Value.int IntKind.u8 0, Value.int IntKind.u8 0, Value.int IntKind.u8 0, Value.int IntKind.u8 0, Value.int IntKind.u8 0, Value.int IntKind.u8 0, Value.int IntKind.u8 0, Value.int IntKind.u8 0, Value.int IntKind.u8 0, Value.int IntKind.u8 0, Value.int IntKind.u8 0, Value.int IntKind.u8 0, Value.int IntKind.u8 0, Value.int IntKind.u8 0, Value.int IntKind.u8 0, Value.int IntKind.u8 0, Value.int IntKind.u8 0, Value.int IntKind.u8 0, Value.int IntKind.u8 0, Value.int IntKind.u8 0, Value.int IntKind.u8 0, Value.int IntKind.u8 0, Value.int IntKind.u8 0, Value.int IntKind.u8 0, Value.int IntKind.u8 0, Value.int IntKind.u8 0, Value.int IntKind.u8 0], cmp := false }),
  (231, { desc := TypeDesc.struct #[{ name := "_interface", type := 17, offset := 0, embedded := false, tag := "", pkgPath := "runtime", byteOffset := 0 }, { name := "concrete", type := 17, offset := 1, embedded := false, tag := "", pkgPath := "runtime", byteOffset := 8 }, { name := "asserted", type := 17, offset := 2, embedded := false, tag := "", pkgPath := "runtime", byteOffset := 16 }, { name := "missingMethod", type := 9, offset := 3, embedded := false, tag := "", pkgPath := "runtime", byteOffset := 24 }], sz := 4, bytes := 40, zero := Value.agg #[Value.pointer none, Value.pointer none, Value.pointer none, Value.string { data := #[] }], cmp := false }),
  (232, { desc := TypeDesc.struct #[{ name := "_interface", type := 17, offset := 0, embedded := false, tag := "", pkgPath := "runtime", byteOffset := 0 }, { name := "concrete", type := 17, offset := 1, embedded := false, tag := "", pkgPath := "runtime", byteOffset := 8 }, { name := "asserted", type := 17, offset := 2, embedded := false, tag := "", pkgPath := "runtime", byteOffset := 16 }, { name := "missingMethod", type := 9, offset := 3, embedded := false, tag := "", pkgPath := "runtime", byteOffset := 24 }], sz := 4, bytes := 40, zero := Value.agg #[Value.pointer none, Value.pointer none, Value.pointer none, Value.string { data := #[] }], cmp := false }),
  (233, { desc := TypeDesc.array 0 16, sz := 0, bytes := 0, zero := Value.agg #[], cmp := false }),
  (234, { desc := TypeDesc.struct #[{ name := "_", type := 233, offset := 0, embedded := false, tag := "", pkgPath := "runtime", byteOffset := 0 }], sz := 0, bytes := 0, zero := Value.agg #[], cmp := false }),
  (235, { desc := TypeDesc.struct #[{ name := "_", type := 233, offset := 0, embedded := false, tag := "", pkgPath := "runtime", byteOffset := 0 }], sz := 0, bytes := 0, zero := Value.agg #[], cmp := false }),
  (236, { desc := TypeDesc.func #[] #[3] false, sz := 1, bytes := 8, zero := Value.nilFunc, cmp := false }),
  (237, { desc := TypeDesc.int IntKind.u8, sz := 1, bytes := 1, zero := Value.int IntKind.u8 0, cmp := false }),
  (238, { desc := TypeDesc.int IntKind.u8, sz := 1, bytes := 1, zero := Value.int IntKind.u8 0, cmp := false }),
  (239, { desc := TypeDesc.func #[244, 244] #[4] false, sz := 1, bytes := 8, zero := Value.nilFunc, cmp := false }),
  (240, { desc := TypeDesc.int IntKind.i32, sz := 1, bytes := 4, zero := Value.int IntKind.i32 0, cmp := false }),
  (241, { desc := TypeDesc.int IntKind.i32, sz := 1, bytes := 4, zero := Value.int IntKind.i32 0, cmp := false }),
  (242, { desc := TypeDesc.struct #[{ name := "Size_", type := 12, offset := 0, embedded := false, tag := "", pkgPath := "", byteOffset := 0 }, { name := "PtrBytes", type := 12, offset := 1, embedded := false, tag := "", pkgPath := "", byteOffset := 8 }, { name := "Hash", type := 143, offset := 2, embedded := false, tag := "", pkgPath := "", byteOffset := 16 }, { name := "TFlag", type := 237, offset := 3, embedded := false, tag := "", pkgPath := "", byteOffset := 20 }, { name := "Align_", type := 5, offset := 4, embedded := false, tag := "", pkgPath := "", byteOffset := 21 }, { name := "FieldAlign_", type := 5, offset := 5, embedded := false, tag := "", pkgPath := "", byteOffset := 22 }, { name := "Kind_", type := 238, offset := 6, embedded := false, tag := "", pkgPath := "", byteOffset := 23 }, { name := "Equal", type := 239, offset := 7, embedded := false, tag := "", pkgPath := "", byteOffset := 24 }, { name := "GCData", type := 216, offset := 8, embedded := false, tag := "", pkgPath := "", byteOffset := 32 }, { name := "Str", type := 240, offset := 9, embedded := false, tag := "", pkgPath := "", byteOffset := 40 }, { name := "PtrToThis", type := 241, offset := 10, embedded := false, tag := "", pkgPath := "", byteOffset := 44 }], sz := 11, bytes := 48, zero := Value.agg #[Value.int IntKind.u64 0, Value.int IntKind.u64 0, Value.int IntKind.u32 0, Value.int IntKind.u8 0, Value.int IntKind.u8 0, Value.int IntKind.u8 0, Value.int IntKind.u8 0, Value.nilFunc, Value.pointer none, Value.int IntKind.i32 0, Value.int IntKind.i32 0], cmp := false }),
  (243, { desc := TypeDesc.struct #[{ name := "Size_", type := 12, offset := 0, embedded := false, tag := "", pkgPath := "", byteOffset := 0 }, { name := "PtrBytes", type := 12, offset := 1, embedded := false, tag := "", pkgPath := "", byteOffset := 8 }, { name := "Hash", type := 143, offset := 2, embedded := false, tag := "", pkgPath := "", byteOffset := 16 }, { name := "TFlag", type := 237, offset := 3, embedded := false, tag := "", pkgPath := "", byteOffset := 20 }, { name := "Align_", type := 5, offset := 4, embedded := false, tag := "", pkgPath := "", byteOffset := 21 }, { name := "FieldAlign_", type := 5, offset := 5, embedded := false, tag := "", pkgPath := "", byteOffset := 22 }, { name := "Kind_", type := 238, offset := 6, embedded := false, tag := "", pkgPath := "", byteOffset := 23 }, { name := "Equal", type := 239, offset := 7, embedded := false, tag := "", pkgPath := "", byteOffset := 24 }, { name := "GCData", type := 216, offset := 8, embedded := false, tag := "", pkgPath := "", byteOffset := 32 }, { name := "Str", type := 240, offset := 9, embedded := false, tag := "", pkgPath := "", byteOffset := 40 }, { name := "PtrToThis", type := 241, offset := 10, embedded := false, tag := "", pkgPath := "", byteOffset := 44 }], sz := 11, bytes := 48, zero := Value.agg #[Value.int IntKind.u64 0, Value.int IntKind.u64 0, Value.int IntKind.u32 0, Value.int IntKind.u8 0, Value.int IntKind.u8 0, Value.int IntKind.u8 0, Value.int IntKind.u8 0, Value.nilFunc, Value.pointer none, Value.int IntKind.i32 0, Value.int IntKind.i32 0], cmp := false }),
  (244, { desc := TypeDesc.unsafePointer, sz := 1, bytes := 8, zero := Value.pointer none, cmp := false })]

theorem te_ok : TE.ok Tryz.prog te := by
  refine TE.ok_cons Tryz.underlying0 ⟨Tryz.t0, Tryz.type0, rfl, rfl, rfl⟩ (fun h => by cases h) ?_
  refine TE.ok_cons Tryz.underlying1 ⟨Tryz.t1, Tryz.type1, rfl, rfl, rfl⟩ (fun h => by cases h) ?_
  refine TE.ok_cons Tryz.underlying2 ⟨Tryz.t2, Tryz.type2, rfl, rfl, rfl⟩ (fun h => by cases h) ?_
  refine TE.ok_cons Tryz.underlying3 ⟨Tryz.t3, Tryz.type3, rfl, rfl, rfl⟩ (fun h => by cases h) ?_
  refine TE.ok_cons Tryz.underlying4 ⟨Tryz.t4, Tryz.type4, rfl, rfl, rfl⟩ (fun h => by cases h) ?_
  refine TE.ok_cons Tryz.underlying5 ⟨Tryz.t5, Tryz.type5, rfl, rfl, rfl⟩ (fun h => by cases h) ?_
  refine TE.ok_cons Tryz.underlying6 ⟨Tryz.t6, Tryz.type6, rfl, rfl, rfl⟩ (fun h => by cases h) ?_
  refine TE.ok_cons Tryz.underlying7 ⟨Tryz.t7, Tryz.type7, rfl, rfl, rfl⟩ (fun _ => ⟨Tryz.stoodInHeld7, Tryz.eqGuardType7, fun fs h f hf => by cases h; revert f; decide⟩) ?_
  refine TE.ok_cons Tryz.underlying8 ⟨Tryz.t8, Tryz.type8, rfl, rfl, rfl⟩ (fun _ => ⟨Tryz.stoodInHeld8, Tryz.eqGuardType8, fun fs h f hf => by cases h; revert f; decide⟩) ?_
  refine TE.ok_cons Tryz.underlying9 ⟨Tryz.t9, Tryz.type9, rfl, rfl, rfl⟩ (fun h => by cases h) ?_
  refine TE.ok_cons Tryz.underlying10 ⟨Tryz.t10, Tryz.type10, rfl, rfl, rfl⟩ (fun h => by cases h) ?_
  refine TE.ok_cons Tryz.underlying11 ⟨Tryz.t11, Tryz.type11, rfl, rfl, rfl⟩ (fun h => by cases h) ?_
  refine TE.ok_cons Tryz.underlying12 ⟨Tryz.t12, Tryz.type12, rfl, rfl, rfl⟩ (fun h => by cases h) ?_
  refine TE.ok_cons Tryz.underlying13 ⟨Tryz.t13, Tryz.type13, rfl, rfl, rfl⟩ (fun h => by cases h) ?_
  refine TE.ok_cons Tryz.underlying14 ⟨Tryz.t14, Tryz.type14, rfl, rfl, rfl⟩ (fun h => by cases h) ?_
  refine TE.ok_cons Tryz.underlying15 ⟨Tryz.t15, Tryz.type15, rfl, rfl, rfl⟩ (fun h => by cases h) ?_
  refine TE.ok_cons Tryz.underlying16 ⟨Tryz.t16, Tryz.type16, rfl, rfl, rfl⟩ (fun h => by cases h) ?_
  refine TE.ok_cons Tryz.underlying17 ⟨Tryz.t17, Tryz.type17, rfl, rfl, rfl⟩ (fun h => by cases h) ?_
  refine TE.ok_cons Tryz.underlying18 ⟨Tryz.t18, Tryz.type18, rfl, rfl, rfl⟩ (fun h => by cases h) ?_
  refine TE.ok_cons Tryz.underlying19 ⟨Tryz.t19, Tryz.type19, rfl, rfl, rfl⟩ (fun h => by cases h) ?_
  refine TE.ok_cons Tryz.underlying20 ⟨Tryz.t20, Tryz.type20, rfl, rfl, rfl⟩ (fun h => by cases h) ?_
  refine TE.ok_cons Tryz.underlying21 ⟨Tryz.t21, Tryz.type21, rfl, rfl, rfl⟩ (fun h => by cases h) ?_
  refine TE.ok_cons Tryz.underlying22 ⟨Tryz.t22, Tryz.type22, rfl, rfl, rfl⟩ (fun h => by cases h) ?_
  refine TE.ok_cons Tryz.underlying23 ⟨Tryz.t23, Tryz.type23, rfl, rfl, rfl⟩ (fun h => by cases h) ?_
  refine TE.ok_cons Tryz.underlying24 ⟨Tryz.t24, Tryz.type24, rfl, rfl, rfl⟩ (fun h => by cases h) ?_
  refine TE.ok_cons Tryz.underlying25 ⟨Tryz.t25, Tryz.type25, rfl, rfl, rfl⟩ (fun h => by cases h) ?_
  refine TE.ok_cons Tryz.underlying26 ⟨Tryz.t26, Tryz.type26, rfl, rfl, rfl⟩ (fun h => by cases h) ?_
  refine TE.ok_cons Tryz.underlying27 ⟨Tryz.t27, Tryz.type27, rfl, rfl, rfl⟩ (fun _ => ⟨Tryz.stoodInHeld27, Tryz.eqGuardType27, fun fs h f hf => by cases h; revert f; decide⟩) ?_
  refine TE.ok_cons Tryz.underlying28 ⟨Tryz.t28, Tryz.type28, rfl, rfl, rfl⟩ (fun _ => ⟨Tryz.stoodInHeld28, Tryz.eqGuardType28, fun fs h f hf => by cases h; revert f; decide⟩) ?_
  refine TE.ok_cons Tryz.underlying29 ⟨Tryz.t29, Tryz.type29, rfl, rfl, rfl⟩ (fun h => by cases h) ?_
  refine TE.ok_cons Tryz.underlying30 ⟨Tryz.t30, Tryz.type30, rfl, rfl, rfl⟩ (fun h => by cases h) ?_
  refine TE.ok_cons Tryz.underlying31 ⟨Tryz.t31, Tryz.type31, rfl, rfl, rfl⟩ (fun h => by cases h) ?_
  refine TE.ok_cons Tryz.underlying32 ⟨Tryz.t32, Tryz.type32, rfl, rfl, rfl⟩ (fun h => by cases h) ?_
  refine TE.ok_cons Tryz.underlying33 ⟨Tryz.t33, Tryz.type33, rfl, rfl, rfl⟩ (fun h => by cases h) ?_
  refine TE.ok_cons Tryz.underlying34 ⟨Tryz.t34, Tryz.type34, rfl, rfl, rfl⟩ (fun h => by cases h) ?_
  refine TE.ok_cons Tryz.underlying35 ⟨Tryz.t35, Tryz.type35, rfl, rfl, rfl⟩ (fun h => by cases h) ?_
  refine TE.ok_cons Tryz.underlying36 ⟨Tryz.t36, Tryz.type36, rfl, rfl, rfl⟩ (fun h => by cases h) ?_
  refine TE.ok_cons Tryz.underlying37 ⟨Tryz.t37, Tryz.type37, rfl, rfl, rfl⟩ (fun h => by cases h) ?_
  refine TE.ok_cons Tryz.underlying38 ⟨Tryz.t38, Tryz.type38, rfl, rfl, rfl⟩ (fun _ => ⟨Tryz.stoodInHeld38, Tryz.eqGuardType38, fun fs h f hf => by cases h; revert f; decide⟩) ?_
  refine TE.ok_cons Tryz.underlying39 ⟨Tryz.t39, Tryz.type39, rfl, rfl, rfl⟩ (fun _ => ⟨Tryz.stoodInHeld39, Tryz.eqGuardType39, fun fs h f hf => by cases h; revert f; decide⟩) ?_
  refine TE.ok_cons Tryz.underlying40 ⟨Tryz.t40, Tryz.type40, rfl, rfl, rfl⟩ (fun h => by cases h) ?_
  refine TE.ok_cons Tryz.underlying41 ⟨Tryz.t41, Tryz.type41, rfl, rfl, rfl⟩ (fun h => by cases h) ?_
  refine TE.ok_cons Tryz.underlying42 ⟨Tryz.t42, Tryz.type42, rfl, rfl, rfl⟩ (fun h => by cases h) ?_
  refine TE.ok_cons Tryz.underlying43 ⟨Tryz.t43, Tryz.type43, rfl, rfl, rfl⟩ (fun h => by cases h) ?_
  refine TE.ok_cons Tryz.underlying44 ⟨Tryz.t44, Tryz.type44, rfl, rfl, rfl⟩ (fun h => by cases h) ?_
  refine TE.ok_cons Tryz.underlying45 ⟨Tryz.t45, Tryz.type45, rfl, rfl, rfl⟩ (fun h => by cases h) ?_
  refine TE.ok_cons Tryz.underlying46 ⟨Tryz.t46, Tryz.type46, rfl, rfl, rfl⟩ (fun h => by cases h) ?_
  refine TE.ok_cons Tryz.underlying47 ⟨Tryz.t47, Tryz.type47, rfl, rfl, rfl⟩ (fun h => by cases h) ?_
  refine TE.ok_cons Tryz.underlying48 ⟨Tryz.t48, Tryz.type48, rfl, rfl, rfl⟩ (fun h => by cases h) ?_
  refine TE.ok_cons Tryz.underlying49 ⟨Tryz.t49, Tryz.type49, rfl, rfl, rfl⟩ (fun h => by cases h) ?_
  refine TE.ok_cons Tryz.underlying50 ⟨Tryz.t50, Tryz.type50, rfl, rfl, rfl⟩ (fun h => by cases h) ?_
  refine TE.ok_cons Tryz.underlying51 ⟨Tryz.t51, Tryz.type51, rfl, rfl, rfl⟩ (fun _ => ⟨Tryz.stoodInHeld51, Tryz.eqGuardType51, fun fs h f hf => by cases h; revert f; decide⟩) ?_
  refine TE.ok_cons Tryz.underlying52 ⟨Tryz.t52, Tryz.type52, rfl, rfl, rfl⟩ (fun _ => ⟨Tryz.stoodInHeld52, Tryz.eqGuardType52, fun fs h f hf => by cases h; revert f; decide⟩) ?_
  refine TE.ok_cons Tryz.underlying53 ⟨Tryz.t53, Tryz.type53, rfl, rfl, rfl⟩ (fun _ => ⟨Tryz.stoodInHeld53, Tryz.eqGuardType53, fun fs h f hf => by cases h; revert f; decide⟩) ?_
  refine TE.ok_cons Tryz.underlying54 ⟨Tryz.t54, Tryz.type54, rfl, rfl, rfl⟩ (fun _ => ⟨Tryz.stoodInHeld54, Tryz.eqGuardType54, fun fs h f hf => by cases h; revert f; decide⟩) ?_
  refine TE.ok_cons Tryz.underlying55 ⟨Tryz.t55, Tryz.type55, rfl, rfl, rfl⟩ (fun _ => ⟨Tryz.stoodInHeld55, Tryz.eqGuardType55, fun fs h f hf => by cases h; revert f; decide⟩) ?_
  refine TE.ok_cons Tryz.underlying56 ⟨Tryz.t56, Tryz.type56, rfl, rfl, rfl⟩ (fun _ => ⟨Tryz.stoodInHeld56, Tryz.eqGuardType56, fun fs h f hf => by cases h; revert f; decide⟩) ?_
  refine TE.ok_cons Tryz.underlying57 ⟨Tryz.t57, Tryz.type57, rfl, rfl, rfl⟩ (fun h => by cases h) ?_
  refine TE.ok_cons Tryz.underlying58 ⟨Tryz.t58, Tryz.type58, rfl, rfl, rfl⟩ (fun h => by cases h) ?_
  refine TE.ok_cons Tryz.underlying59 ⟨Tryz.t59, Tryz.type59, rfl, rfl, rfl⟩ (fun h => by cases h) ?_
  refine TE.ok_cons Tryz.underlying60 ⟨Tryz.t60, Tryz.type60, rfl, rfl, rfl⟩ (fun h => by cases h) ?_
  refine TE.ok_cons Tryz.underlying61 ⟨Tryz.t61, Tryz.type61, rfl, rfl, rfl⟩ (fun h => by cases h) ?_
  refine TE.ok_cons Tryz.underlying62 ⟨Tryz.t62, Tryz.type62, rfl, rfl, rfl⟩ (fun h => by cases h) ?_
  refine TE.ok_cons Tryz.underlying63 ⟨Tryz.t63, Tryz.type63, rfl, rfl, rfl⟩ (fun h => by cases h) ?_
  refine TE.ok_cons Tryz.underlying64 ⟨Tryz.t64, Tryz.type64, rfl, rfl, rfl⟩ (fun h => by cases h) ?_
  refine TE.ok_cons Tryz.underlying65 ⟨Tryz.t65, Tryz.type65, rfl, rfl, rfl⟩ (fun h => by cases h) ?_
  refine TE.ok_cons Tryz.underlying66 ⟨Tryz.t66, Tryz.type66, rfl, rfl, rfl⟩ (fun h => by cases h) ?_
  refine TE.ok_cons Tryz.underlying67 ⟨Tryz.t67, Tryz.type67, rfl, rfl, rfl⟩ (fun h => by cases h) ?_
  refine TE.ok_cons Tryz.underlying68 ⟨Tryz.t68, Tryz.type68, rfl, rfl, rfl⟩ (fun h => by cases h) ?_
  refine TE.ok_cons Tryz.underlying69 ⟨Tryz.t69, Tryz.type69, rfl, rfl, rfl⟩ (fun h => by cases h) ?_
  refine TE.ok_cons Tryz.underlying70 ⟨Tryz.t70, Tryz.type70, rfl, rfl, rfl⟩ (fun h => by cases h) ?_
  refine TE.ok_cons Tryz.underlying71 ⟨Tryz.t71, Tryz.type71, rfl, rfl, rfl⟩ (fun h => by cases h) ?_
  refine TE.ok_cons Tryz.underlying72 ⟨Tryz.t72, Tryz.type72, rfl, rfl, rfl⟩ (fun h => by cases h) ?_
  refine TE.ok_cons Tryz.underlying73 ⟨Tryz.t73, Tryz.type73, rfl, rfl, rfl⟩ (fun h => by cases h) ?_
  refine TE.ok_cons Tryz.underlying74 ⟨Tryz.t74, Tryz.type74, rfl, rfl, rfl⟩ (fun h => by cases h) ?_
  refine TE.ok_cons Tryz.underlying75 ⟨Tryz.t75, Tryz.type75, rfl, rfl, rfl⟩ (fun h => by cases h) ?_
  refine TE.ok_cons Tryz.underlying76 ⟨Tryz.t76, Tryz.type76, rfl, rfl, rfl⟩ (fun h => by cases h) ?_
  refine TE.ok_cons Tryz.underlying77 ⟨Tryz.t77, Tryz.type77, rfl, rfl, rfl⟩ (fun h => by cases h) ?_
  refine TE.ok_cons Tryz.underlying78 ⟨Tryz.t78, Tryz.type78, rfl, rfl, rfl⟩ (fun _ => ⟨Tryz.stoodInHeld78, Tryz.eqGuardType78, fun fs h f hf => by cases h; revert f; decide⟩) ?_
  refine TE.ok_cons Tryz.underlying79 ⟨Tryz.t79, Tryz.type79, rfl, rfl, rfl⟩ (fun _ => ⟨Tryz.stoodInHeld79, Tryz.eqGuardType79, fun fs h f hf => by cases h; revert f; decide⟩) ?_
  refine TE.ok_cons Tryz.underlying80 ⟨Tryz.t80, Tryz.type80, rfl, rfl, rfl⟩ (fun h => by cases h) ?_
  refine TE.ok_cons Tryz.underlying81 ⟨Tryz.t81, Tryz.type81, rfl, rfl, rfl⟩ (fun h => by cases h) ?_
  refine TE.ok_cons Tryz.underlying82 ⟨Tryz.t82, Tryz.type82, rfl, rfl, rfl⟩ (fun h => by cases h) ?_
  refine TE.ok_cons Tryz.underlying83 ⟨Tryz.t83, Tryz.type83, rfl, rfl, rfl⟩ (fun _ => ⟨Tryz.stoodInHeld83, Tryz.eqGuardType83, fun fs h f hf => by cases h; revert f; decide⟩) ?_
  refine TE.ok_cons Tryz.underlying84 ⟨Tryz.t84, Tryz.type84, rfl, rfl, rfl⟩ (fun _ => ⟨Tryz.stoodInHeld84, Tryz.eqGuardType84, fun fs h f hf => by cases h; revert f; decide⟩) ?_
  refine TE.ok_cons Tryz.underlying85 ⟨Tryz.t85, Tryz.type85, rfl, rfl, rfl⟩ (fun h => by cases h) ?_
  refine TE.ok_cons Tryz.underlying86 ⟨Tryz.t86, Tryz.type86, rfl, rfl, rfl⟩ (fun h => by cases h) ?_
  refine TE.ok_cons Tryz.underlying87 ⟨Tryz.t87, Tryz.type87, rfl, rfl, rfl⟩ (fun h => by cases h) ?_
  refine TE.ok_cons Tryz.underlying88 ⟨Tryz.t88, Tryz.type88, rfl, rfl, rfl⟩ (fun h => by cases h) ?_
  refine TE.ok_cons Tryz.underlying89 ⟨Tryz.t89, Tryz.type89, rfl, rfl, rfl⟩ (fun h => by cases h) ?_
  refine TE.ok_cons Tryz.underlying90 ⟨Tryz.t90, Tryz.type90, rfl, rfl, rfl⟩ (fun h => by cases h) ?_
  refine TE.ok_cons Tryz.underlying91 ⟨Tryz.t91, Tryz.type91, rfl, rfl, rfl⟩ (fun h => by cases h) ?_
  refine TE.ok_cons Tryz.underlying92 ⟨Tryz.t92, Tryz.type92, rfl, rfl, rfl⟩ (fun _ => ⟨Tryz.stoodInHeld92, Tryz.eqGuardType92, fun fs h f hf => by cases h; revert f; decide⟩) ?_
  refine TE.ok_cons Tryz.underlying93 ⟨Tryz.t93, Tryz.type93, rfl, rfl, rfl⟩ (fun _ => ⟨Tryz.stoodInHeld93, Tryz.eqGuardType93, fun fs h f hf => by cases h; revert f; decide⟩) ?_
  refine TE.ok_cons Tryz.underlying94 ⟨Tryz.t94, Tryz.type94, rfl, rfl, rfl⟩ (fun h => by cases h) ?_
  refine TE.ok_cons Tryz.underlying95 ⟨Tryz.t95, Tryz.type95, rfl, rfl, rfl⟩ (fun _ => ⟨Tryz.stoodInHeld95, Tryz.eqGuardType95, fun fs h f hf => by cases h; revert f; decide⟩) ?_
  refine TE.ok_cons Tryz.underlying96 ⟨Tryz.t96, Tryz.type96, rfl, rfl, rfl⟩ (fun _ => ⟨Tryz.stoodInHeld96, Tryz.eqGuardType96, fun fs h f hf => by cases h; revert f; decide⟩) ?_
  refine TE.ok_cons Tryz.underlying97 ⟨Tryz.t97, Tryz.type97, rfl, rfl, rfl⟩ (fun h => by cases h) ?_
  refine TE.ok_cons Tryz.underlying98 ⟨Tryz.t98, Tryz.type98, rfl, rfl, rfl⟩ (fun h => by cases h) ?_
  refine TE.ok_cons Tryz.underlying99 ⟨Tryz.t99, Tryz.type99, rfl, rfl, rfl⟩ (fun h => by cases h) ?_
  refine TE.ok_cons Tryz.underlying100 ⟨Tryz.t100, Tryz.type100, rfl, rfl, rfl⟩ (fun h => by cases h) ?_
  refine TE.ok_cons Tryz.underlying101 ⟨Tryz.t101, Tryz.type101, rfl, rfl, rfl⟩ (fun h => by cases h) ?_
  refine TE.ok_cons Tryz.underlying102 ⟨Tryz.t102, Tryz.type102, rfl, rfl, rfl⟩ (fun h => by cases h) ?_
  refine TE.ok_cons Tryz.underlying103 ⟨Tryz.t103, Tryz.type103, rfl, rfl, rfl⟩ (fun h => by cases h) ?_
  refine TE.ok_cons Tryz.underlying104 ⟨Tryz.t104, Tryz.type104, rfl, rfl, rfl⟩ (fun h => by cases h) ?_
  refine TE.ok_cons Tryz.underlying105 ⟨Tryz.t105, Tryz.type105, rfl, rfl, rfl⟩ (fun h => by cases h) ?_
  refine TE.ok_cons Tryz.underlying106 ⟨Tryz.t106, Tryz.type106, rfl, rfl, rfl⟩ (fun h => by cases h) ?_
  refine TE.ok_cons Tryz.underlying107 ⟨Tryz.t107, Tryz.type107, rfl, rfl, rfl⟩ (fun h => by cases h) ?_
  refine TE.ok_cons Tryz.underlying108 ⟨Tryz.t108, Tryz.type108, rfl, rfl, rfl⟩ (fun h => by cases h) ?_
  refine TE.ok_cons Tryz.underlying109 ⟨Tryz.t109, Tryz.type109, rfl, rfl, rfl⟩ (fun h => by cases h) ?_
  refine TE.ok_cons Tryz.underlying110 ⟨Tryz.t110, Tryz.type110, rfl, rfl, rfl⟩ (fun h => by cases h) ?_
  refine TE.ok_cons Tryz.underlying111 ⟨Tryz.t111, Tryz.type111, rfl, rfl, rfl⟩ (fun h => by cases h) ?_
  refine TE.ok_cons Tryz.underlying112 ⟨Tryz.t112, Tryz.type112, rfl, rfl, rfl⟩ (fun h => by cases h) ?_
  refine TE.ok_cons Tryz.underlying113 ⟨Tryz.t113, Tryz.type113, rfl, rfl, rfl⟩ (fun h => by cases h) ?_
  refine TE.ok_cons Tryz.underlying114 ⟨Tryz.t114, Tryz.type114, rfl, rfl, rfl⟩ (fun h => by cases h) ?_
  refine TE.ok_cons Tryz.underlying115 ⟨Tryz.t115, Tryz.type115, rfl, rfl, rfl⟩ (fun h => by cases h) ?_
  refine TE.ok_cons Tryz.underlying116 ⟨Tryz.t116, Tryz.type116, rfl, rfl, rfl⟩ (fun h => by cases h) ?_
  refine TE.ok_cons Tryz.underlying117 ⟨Tryz.t117, Tryz.type117, rfl, rfl, rfl⟩ (fun h => by cases h) ?_
  refine TE.ok_cons Tryz.underlying118 ⟨Tryz.t118, Tryz.type118, rfl, rfl, rfl⟩ (fun h => by cases h) ?_
  refine TE.ok_cons Tryz.underlying119 ⟨Tryz.t119, Tryz.type119, rfl, rfl, rfl⟩ (fun h => by cases h) ?_
  refine TE.ok_cons Tryz.underlying120 ⟨Tryz.t120, Tryz.type120, rfl, rfl, rfl⟩ (fun h => by cases h) ?_
  refine TE.ok_cons Tryz.underlying121 ⟨Tryz.t121, Tryz.type121, rfl, rfl, rfl⟩ (fun _ => ⟨Tryz.stoodInHeld121, Tryz.eqGuardType121, fun fs h f hf => by cases h; revert f; decide⟩) ?_
  refine TE.ok_cons Tryz.underlying122 ⟨Tryz.t122, Tryz.type122, rfl, rfl, rfl⟩ (fun _ => ⟨Tryz.stoodInHeld122, Tryz.eqGuardType122, fun fs h f hf => by cases h; revert f; decide⟩) ?_
  refine TE.ok_cons Tryz.underlying123 ⟨Tryz.t123, Tryz.type123, rfl, rfl, rfl⟩ (fun h => by cases h) ?_
  refine TE.ok_cons Tryz.underlying124 ⟨Tryz.t124, Tryz.type124, rfl, rfl, rfl⟩ (fun h => by cases h) ?_
  refine TE.ok_cons Tryz.underlying125 ⟨Tryz.t125, Tryz.type125, rfl, rfl, rfl⟩ (fun h => by cases h) ?_
  refine TE.ok_cons Tryz.underlying126 ⟨Tryz.t126, Tryz.type126, rfl, rfl, rfl⟩ (fun h => by cases h) ?_
  refine TE.ok_cons Tryz.underlying127 ⟨Tryz.t127, Tryz.type127, rfl, rfl, rfl⟩ (fun h => by cases h) ?_
  refine TE.ok_cons Tryz.underlying128 ⟨Tryz.t128, Tryz.type128, rfl, rfl, rfl⟩ (fun h => by cases h) ?_
  refine TE.ok_cons Tryz.underlying129 ⟨Tryz.t129, Tryz.type129, rfl, rfl, rfl⟩ (fun h => by cases h) ?_
  refine TE.ok_cons Tryz.underlying130 ⟨Tryz.t130, Tryz.type130, rfl, rfl, rfl⟩ (fun h => by cases h) ?_
  refine TE.ok_cons Tryz.underlying131 ⟨Tryz.t131, Tryz.type131, rfl, rfl, rfl⟩ (fun h => by cases h) ?_
  refine TE.ok_cons Tryz.underlying132 ⟨Tryz.t132, Tryz.type132, rfl, rfl, rfl⟩ (fun h => by cases h) ?_
  refine TE.ok_cons Tryz.underlying133 ⟨Tryz.t133, Tryz.type133, rfl, rfl, rfl⟩ (fun h => by cases h) ?_
  refine TE.ok_cons Tryz.underlying134 ⟨Tryz.t134, Tryz.type134, rfl, rfl, rfl⟩ (fun h => by cases h) ?_
  refine TE.ok_cons Tryz.underlying135 ⟨Tryz.t135, Tryz.type135, rfl, rfl, rfl⟩ (fun h => by cases h) ?_
  refine TE.ok_cons Tryz.underlying136 ⟨Tryz.t136, Tryz.type136, rfl, rfl, rfl⟩ (fun h => by cases h) ?_
  refine TE.ok_cons Tryz.underlying137 ⟨Tryz.t137, Tryz.type137, rfl, rfl, rfl⟩ (fun h => by cases h) ?_
  refine TE.ok_cons Tryz.underlying138 ⟨Tryz.t138, Tryz.type138, rfl, rfl, rfl⟩ (fun h => by cases h) ?_
  refine TE.ok_cons Tryz.underlying139 ⟨Tryz.t139, Tryz.type139, rfl, rfl, rfl⟩ (fun h => by cases h) ?_
  refine TE.ok_cons Tryz.underlying140 ⟨Tryz.t140, Tryz.type140, rfl, rfl, rfl⟩ (fun h => by cases h) ?_
  refine TE.ok_cons Tryz.underlying141 ⟨Tryz.t141, Tryz.type141, rfl, rfl, rfl⟩ (fun h => by cases h) ?_
  refine TE.ok_cons Tryz.underlying142 ⟨Tryz.t142, Tryz.type142, rfl, rfl, rfl⟩ (fun h => by cases h) ?_
  refine TE.ok_cons Tryz.underlying143 ⟨Tryz.t143, Tryz.type143, rfl, rfl, rfl⟩ (fun h => by cases h) ?_
  refine TE.ok_cons Tryz.underlying144 ⟨Tryz.t144, Tryz.type144, rfl, rfl, rfl⟩ (fun h => by cases h) ?_
  refine TE.ok_cons Tryz.underlying145 ⟨Tryz.t145, Tryz.type145, rfl, rfl, rfl⟩ (fun h => by cases h) ?_
  refine TE.ok_cons Tryz.underlying146 ⟨Tryz.t146, Tryz.type146, rfl, rfl, rfl⟩ (fun h => by cases h) ?_
  refine TE.ok_cons Tryz.underlying147 ⟨Tryz.t147, Tryz.type147, rfl, rfl, rfl⟩ (fun h => by cases h) ?_
  refine TE.ok_cons Tryz.underlying148 ⟨Tryz.t148, Tryz.type148, rfl, rfl, rfl⟩ (fun h => by cases h) ?_
  refine TE.ok_cons Tryz.underlying149 ⟨Tryz.t149, Tryz.type149, rfl, rfl, rfl⟩ (fun h => by cases h) ?_
  refine TE.ok_cons Tryz.underlying150 ⟨Tryz.t150, Tryz.type150, rfl, rfl, rfl⟩ (fun h => by cases h) ?_
  refine TE.ok_cons Tryz.underlying151 ⟨Tryz.t151, Tryz.type151, rfl, rfl, rfl⟩ (fun h => by cases h) ?_
  refine TE.ok_cons Tryz.underlying152 ⟨Tryz.t152, Tryz.type152, rfl, rfl, rfl⟩ (fun h => by cases h) ?_
  refine TE.ok_cons Tryz.underlying153 ⟨Tryz.t153, Tryz.type153, rfl, rfl, rfl⟩ (fun h => by cases h) ?_
  refine TE.ok_cons Tryz.underlying154 ⟨Tryz.t154, Tryz.type154, rfl, rfl, rfl⟩ (fun h => by cases h) ?_
  refine TE.ok_cons Tryz.underlying155 ⟨Tryz.t155, Tryz.type155, rfl, rfl, rfl⟩ (fun h => by cases h) ?_
  refine TE.ok_cons Tryz.underlying156 ⟨Tryz.t156, Tryz.type156, rfl, rfl, rfl⟩ (fun h => by cases h) ?_
  refine TE.ok_cons Tryz.underlying157 ⟨Tryz.t157, Tryz.type157, rfl, rfl, rfl⟩ (fun h => by cases h) ?_
  refine TE.ok_cons Tryz.underlying158 ⟨Tryz.t158, Tryz.type158, rfl, rfl, rfl⟩ (fun h => by cases h) ?_
  refine TE.ok_cons Tryz.underlying159 ⟨Tryz.t159, Tryz.type159, rfl, rfl, rfl⟩ (fun h => by cases h) ?_
  refine TE.ok_cons Tryz.underlying160 ⟨Tryz.t160, Tryz.type160, rfl, rfl, rfl⟩ (fun h => by cases h) ?_
  refine TE.ok_cons Tryz.underlying161 ⟨Tryz.t161, Tryz.type161, rfl, rfl, rfl⟩ (fun h => by cases h) ?_
  refine TE.ok_cons Tryz.underlying162 ⟨Tryz.t162, Tryz.type162, rfl, rfl, rfl⟩ (fun h => by cases h) ?_
  refine TE.ok_cons Tryz.underlying163 ⟨Tryz.t163, Tryz.type163, rfl, rfl, rfl⟩ (fun h => by cases h) ?_
  refine TE.ok_cons Tryz.underlying164 ⟨Tryz.t164, Tryz.type164, rfl, rfl, rfl⟩ (fun h => by cases h) ?_
  refine TE.ok_cons Tryz.underlying165 ⟨Tryz.t165, Tryz.type165, rfl, rfl, rfl⟩ (fun h => by cases h) ?_
  refine TE.ok_cons Tryz.underlying166 ⟨Tryz.t166, Tryz.type166, rfl, rfl, rfl⟩ (fun h => by cases h) ?_
  refine TE.ok_cons Tryz.underlying167 ⟨Tryz.t167, Tryz.type167, rfl, rfl, rfl⟩ (fun h => by cases h) ?_
  refine TE.ok_cons Tryz.underlying168 ⟨Tryz.t168, Tryz.type168, rfl, rfl, rfl⟩ (fun h => by cases h) ?_
  refine TE.ok_cons Tryz.underlying169 ⟨Tryz.t169, Tryz.type169, rfl, rfl, rfl⟩ (fun h => by cases h) ?_
  refine TE.ok_cons Tryz.underlying170 ⟨Tryz.t170, Tryz.type170, rfl, rfl, rfl⟩ (fun h => by cases h) ?_
  refine TE.ok_cons Tryz.underlying171 ⟨Tryz.t171, Tryz.type171, rfl, rfl, rfl⟩ (fun h => by cases h) ?_
  refine TE.ok_cons Tryz.underlying172 ⟨Tryz.t172, Tryz.type172, rfl, rfl, rfl⟩ (fun h => by cases h) ?_
  refine TE.ok_cons Tryz.underlying176 ⟨Tryz.t176, Tryz.type176, rfl, rfl, rfl⟩ (fun h => by cases h) ?_
  refine TE.ok_cons Tryz.underlying177 ⟨Tryz.t177, Tryz.type177, rfl, rfl, rfl⟩ (fun h => by cases h) ?_
  refine TE.ok_cons Tryz.underlying178 ⟨Tryz.t178, Tryz.type178, rfl, rfl, rfl⟩ (fun h => by cases h) ?_
  refine TE.ok_cons Tryz.underlying179 ⟨Tryz.t179, Tryz.type179, rfl, rfl, rfl⟩ (fun h => by cases h) ?_
  refine TE.ok_cons Tryz.underlying180 ⟨Tryz.t180, Tryz.type180, rfl, rfl, rfl⟩ (fun h => by cases h) ?_
  refine TE.ok_cons Tryz.underlying181 ⟨Tryz.t181, Tryz.type181, rfl, rfl, rfl⟩ (fun h => by cases h) ?_
  refine TE.ok_cons Tryz.underlying182 ⟨Tryz.t182, Tryz.type182, rfl, rfl, rfl⟩ (fun h => by cases h) ?_
  refine TE.ok_cons Tryz.underlying183 ⟨Tryz.t183, Tryz.type183, rfl, rfl, rfl⟩ (fun h => by cases h) ?_
  refine TE.ok_cons Tryz.underlying184 ⟨Tryz.t184, Tryz.type184, rfl, rfl, rfl⟩ (fun h => by cases h) ?_
  refine TE.ok_cons Tryz.underlying185 ⟨Tryz.t185, Tryz.type185, rfl, rfl, rfl⟩ (fun h => by cases h) ?_
  refine TE.ok_cons Tryz.underlying186 ⟨Tryz.t186, Tryz.type186, rfl, rfl, rfl⟩ (fun h => by cases h) ?_
  refine TE.ok_cons Tryz.underlying187 ⟨Tryz.t187, Tryz.type187, rfl, rfl, rfl⟩ (fun h => by cases h) ?_
  refine TE.ok_cons Tryz.underlying188 ⟨Tryz.t188, Tryz.type188, rfl, rfl, rfl⟩ (fun h => by cases h) ?_
  refine TE.ok_cons Tryz.underlying189 ⟨Tryz.t189, Tryz.type189, rfl, rfl, rfl⟩ (fun h => by cases h) ?_
  refine TE.ok_cons Tryz.underlying190 ⟨Tryz.t190, Tryz.type190, rfl, rfl, rfl⟩ (fun h => by cases h) ?_
  refine TE.ok_cons Tryz.underlying191 ⟨Tryz.t191, Tryz.type191, rfl, rfl, rfl⟩ (fun h => by cases h) ?_
  refine TE.ok_cons Tryz.underlying192 ⟨Tryz.t192, Tryz.type192, rfl, rfl, rfl⟩ (fun h => by cases h) ?_
  refine TE.ok_cons Tryz.underlying193 ⟨Tryz.t193, Tryz.type193, rfl, rfl, rfl⟩ (fun h => by cases h) ?_
  refine TE.ok_cons Tryz.underlying194 ⟨Tryz.t194, Tryz.type194, rfl, rfl, rfl⟩ (fun h => by cases h) ?_
  refine TE.ok_cons Tryz.underlying195 ⟨Tryz.t195, Tryz.type195, rfl, rfl, rfl⟩ (fun h => by cases h) ?_
  refine TE.ok_cons Tryz.underlying196 ⟨Tryz.t196, Tryz.type196, rfl, rfl, rfl⟩ (fun h => by cases h) ?_
  refine TE.ok_cons Tryz.underlying197 ⟨Tryz.t197, Tryz.type197, rfl, rfl, rfl⟩ (fun h => by cases h) ?_
  refine TE.ok_cons Tryz.underlying198 ⟨Tryz.t198, Tryz.type198, rfl, rfl, rfl⟩ (fun h => by cases h) ?_
  refine TE.ok_cons Tryz.underlying199 ⟨Tryz.t199, Tryz.type199, rfl, rfl, rfl⟩ (fun h => by cases h) ?_
  refine TE.ok_cons Tryz.underlying200 ⟨Tryz.t200, Tryz.type200, rfl, rfl, rfl⟩ (fun h => by cases h) ?_
  refine TE.ok_cons Tryz.underlying201 ⟨Tryz.t201, Tryz.type201, rfl, rfl, rfl⟩ (fun h => by cases h) ?_
  refine TE.ok_cons Tryz.underlying202 ⟨Tryz.t202, Tryz.type202, rfl, rfl, rfl⟩ (fun h => by cases h) ?_
  refine TE.ok_cons Tryz.underlying203 ⟨Tryz.t203, Tryz.type203, rfl, rfl, rfl⟩ (fun h => by cases h) ?_
  refine TE.ok_cons Tryz.underlying205 ⟨Tryz.t205, Tryz.type205, rfl, rfl, rfl⟩ (fun _ => ⟨Tryz.stoodInHeld205, Tryz.eqGuardType205, fun fs h f hf => by cases h; revert f; decide⟩) ?_
  refine TE.ok_cons Tryz.underlying206 ⟨Tryz.t206, Tryz.type206, rfl, rfl, rfl⟩ (fun _ => ⟨Tryz.stoodInHeld206, Tryz.eqGuardType206, fun fs h f hf => by cases h; revert f; decide⟩) ?_
  refine TE.ok_cons Tryz.underlying207 ⟨Tryz.t207, Tryz.type207, rfl, rfl, rfl⟩ (fun h => by cases h) ?_
  refine TE.ok_cons Tryz.underlying208 ⟨Tryz.t208, Tryz.type208, rfl, rfl, rfl⟩ (fun h => by cases h) ?_
  refine TE.ok_cons Tryz.underlying209 ⟨Tryz.t209, Tryz.type209, rfl, rfl, rfl⟩ (fun h => by cases h) ?_
  refine TE.ok_cons Tryz.underlying210 ⟨Tryz.t210, Tryz.type210, rfl, rfl, rfl⟩ (fun h => by cases h) ?_
  refine TE.ok_cons Tryz.underlying211 ⟨Tryz.t211, Tryz.type211, rfl, rfl, rfl⟩ (fun h => by cases h) ?_
  refine TE.ok_cons Tryz.underlying212 ⟨Tryz.t212, Tryz.type212, rfl, rfl, rfl⟩ (fun h => by cases h) ?_
  refine TE.ok_cons Tryz.underlying213 ⟨Tryz.t213, Tryz.type213, rfl, rfl, rfl⟩ (fun h => by cases h) ?_
  refine TE.ok_cons Tryz.underlying214 ⟨Tryz.t214, Tryz.type214, rfl, rfl, rfl⟩ (fun h => by cases h) ?_
  refine TE.ok_cons Tryz.underlying215 ⟨Tryz.t215, Tryz.type215, rfl, rfl, rfl⟩ (fun h => by cases h) ?_
  refine TE.ok_cons Tryz.underlying216 ⟨Tryz.t216, Tryz.type216, rfl, rfl, rfl⟩ (fun h => by cases h) ?_
  refine TE.ok_cons Tryz.underlying217 ⟨Tryz.t217, Tryz.type217, rfl, rfl, rfl⟩ (fun h => by cases h) ?_
  refine TE.ok_cons Tryz.underlying218 ⟨Tryz.t218, Tryz.type218, rfl, rfl, rfl⟩ (fun _ => ⟨Tryz.stoodInHeld218, Tryz.eqGuardType218, fun fs h f hf => by cases h; revert f; decide⟩) ?_
  refine TE.ok_cons Tryz.underlying219 ⟨Tryz.t219, Tryz.type219, rfl, rfl, rfl⟩ (fun _ => ⟨Tryz.stoodInHeld219, Tryz.eqGuardType219, fun fs h f hf => by cases h; revert f; decide⟩) ?_
  refine TE.ok_cons Tryz.underlying220 ⟨Tryz.t220, Tryz.type220, rfl, rfl, rfl⟩ (fun h => by cases h) ?_
  refine TE.ok_cons Tryz.underlying221 ⟨Tryz.t221, Tryz.type221, rfl, rfl, rfl⟩ (fun h => by cases h) ?_
  refine TE.ok_cons Tryz.underlying222 ⟨Tryz.t222, Tryz.type222, rfl, rfl, rfl⟩ (fun h => by cases h) ?_
  refine TE.ok_cons Tryz.underlying223 ⟨Tryz.t223, Tryz.type223, rfl, rfl, rfl⟩ (fun h => by cases h) ?_
  refine TE.ok_cons Tryz.underlying224 ⟨Tryz.t224, Tryz.type224, rfl, rfl, rfl⟩ (fun h => by cases h) ?_
  refine TE.ok_cons Tryz.underlying225 ⟨Tryz.t225, Tryz.type225, rfl, rfl, rfl⟩ (fun h => by cases h) ?_
  refine TE.ok_cons Tryz.underlying226 ⟨Tryz.t226, Tryz.type226, rfl, rfl, rfl⟩ (fun h => by cases h) ?_
  refine TE.ok_cons Tryz.underlying227 ⟨Tryz.t227, Tryz.type227, rfl, rfl, rfl⟩ (fun h => by cases h) ?_
  refine TE.ok_cons Tryz.underlying228 ⟨Tryz.t228, Tryz.type228, rfl, rfl, rfl⟩ (fun h => by cases h) ?_
  refine TE.ok_cons Tryz.underlying229 ⟨Tryz.t229, Tryz.type229, rfl, rfl, rfl⟩ (fun h => by cases h) ?_
  refine TE.ok_cons Tryz.underlying230 ⟨Tryz.t230, Tryz.type230, rfl, rfl, rfl⟩ (fun h => by cases h) ?_
  refine TE.ok_cons Tryz.underlying231 ⟨Tryz.t231, Tryz.type231, rfl, rfl, rfl⟩ (fun h => by cases h) ?_
  refine TE.ok_cons Tryz.underlying232 ⟨Tryz.t232, Tryz.type232, rfl, rfl, rfl⟩ (fun h => by cases h) ?_
  refine TE.ok_cons Tryz.underlying233 ⟨Tryz.t233, Tryz.type233, rfl, rfl, rfl⟩ (fun h => by cases h) ?_
  refine TE.ok_cons Tryz.underlying234 ⟨Tryz.t234, Tryz.type234, rfl, rfl, rfl⟩ (fun h => by cases h) ?_
  refine TE.ok_cons Tryz.underlying235 ⟨Tryz.t235, Tryz.type235, rfl, rfl, rfl⟩ (fun h => by cases h) ?_
  refine TE.ok_cons Tryz.underlying236 ⟨Tryz.t236, Tryz.type236, rfl, rfl, rfl⟩ (fun h => by cases h) ?_
  refine TE.ok_cons Tryz.underlying237 ⟨Tryz.t237, Tryz.type237, rfl, rfl, rfl⟩ (fun h => by cases h) ?_
  refine TE.ok_cons Tryz.underlying238 ⟨Tryz.t238, Tryz.type238, rfl, rfl, rfl⟩ (fun h => by cases h) ?_
  refine TE.ok_cons Tryz.underlying239 ⟨Tryz.t239, Tryz.type239, rfl, rfl, rfl⟩ (fun h => by cases h) ?_
  refine TE.ok_cons Tryz.underlying240 ⟨Tryz.t240, Tryz.type240, rfl, rfl, rfl⟩ (fun h => by cases h) ?_
  refine TE.ok_cons Tryz.underlying241 ⟨Tryz.t241, Tryz.type241, rfl, rfl, rfl⟩ (fun h => by cases h) ?_
  refine TE.ok_cons Tryz.underlying242 ⟨Tryz.t242, Tryz.type242, rfl, rfl, rfl⟩ (fun h => by cases h) ?_
  refine TE.ok_cons Tryz.underlying243 ⟨Tryz.t243, Tryz.type243, rfl, rfl, rfl⟩ (fun h => by cases h) ?_
  refine TE.ok_cons Tryz.underlying244 ⟨Tryz.t244, Tryz.type244, rfl, rfl, rfl⟩ (fun h => by cases h) ?_
  exact TE.ok_nil

set_option maxRecDepth 100000 in
theorem te_one : ∀ t ti, lk te t = some ti → isAggD ti.desc = false → ti.sz = 1 := TE.one_of (by rfl)

end Go.Eng
