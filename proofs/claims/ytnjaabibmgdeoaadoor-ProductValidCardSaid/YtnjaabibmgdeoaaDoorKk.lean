/- Lemmas that the tied card of ProductValid is proved by. -/
import Derived.Test.YtnjaabibmgdeoaaDoorKd
import Derived.Test.YtnjaabibmgdeoaaDoorProg
import Derived.Test.YtnjaabibmgdeoaaDoorKj
import Derived.KernelRfl
/- The table of types. Printed by gen_te.py. -/
namespace Go.Eng
open Go.Proofs

def te : TE := [
  (0, { desc := TypeDesc.tuple #[], sz := 1, bytes := 0, zero := Value.tuple #[], cmp := false }),
  (1, { desc := TypeDesc.func #[] #[] false, sz := 1, bytes := 8, zero := Value.nilFunc, cmp := false }),
  (2, { desc := TypeDesc.int IntKind.i64, sz := 1, bytes := 8, zero := Value.int IntKind.i64 0, cmp := false }),
  (3, { desc := TypeDesc.int IntKind.i64, sz := 1, bytes := 8, zero := Value.int IntKind.i64 0, cmp := false }),
  (4, { desc := TypeDesc.bool, sz := 1, bytes := 1, zero := Value.bool false, cmp := false }),
  (5, { desc := TypeDesc.int IntKind.u8, sz := 1, bytes := 1, zero := Value.int IntKind.u8 0, cmp := false }),
  (6, { desc := TypeDesc.int IntKind.u8, sz := 1, bytes := 1, zero := Value.int IntKind.u8 0, cmp := false }),
  (7, { desc := TypeDesc.struct #[{ name := "x", type := 2, offset := 0, embedded := false, tag := "", pkgPath := "runtime", byteOffset := 0 }, { name := "y", type := 3, offset := 1, embedded := false, tag := "", pkgPath := "runtime", byteOffset := 8 }, { name := "signed", type := 4, offset := 2, embedded := false, tag := "", pkgPath := "runtime", byteOffset := 16 }, { name := "code", type := 6, offset := 3, embedded := false, tag := "", pkgPath := "runtime", byteOffset := 17 }], sz := 4, bytes := 24, zero := Value.agg #[Value.int IntKind.i64 0, Value.int IntKind.i64 0, Value.bool false, Value.int IntKind.u8 0], cmp := true }),
  (8, { desc := TypeDesc.struct #[{ name := "x", type := 2, offset := 0, embedded := false, tag := "", pkgPath := "runtime", byteOffset := 0 }, { name := "y", type := 3, offset := 1, embedded := false, tag := "", pkgPath := "runtime", byteOffset := 8 }, { name := "signed", type := 4, offset := 2, embedded := false, tag := "", pkgPath := "runtime", byteOffset := 16 }, { name := "code", type := 6, offset := 3, embedded := false, tag := "", pkgPath := "runtime", byteOffset := 17 }], sz := 4, bytes := 24, zero := Value.agg #[Value.int IntKind.i64 0, Value.int IntKind.i64 0, Value.bool false, Value.int IntKind.u8 0], cmp := true }),
  (9, { desc := TypeDesc.string, sz := 1, bytes := 16, zero := Value.string { data := #[] }, cmp := false }),
  (10, { desc := TypeDesc.string, sz := 1, bytes := 16, zero := Value.string { data := #[] }, cmp := false }),
  (11, { desc := TypeDesc.string, sz := 1, bytes := 16, zero := Value.string { data := #[] }, cmp := false }),
  (12, { desc := TypeDesc.int IntKind.u64, sz := 1, bytes := 8, zero := Value.int IntKind.u64 0, cmp := false }),
  (13, { desc := TypeDesc.struct #[{ name := "msg", type := 9, offset := 0, embedded := false, tag := "", pkgPath := "runtime", byteOffset := 0 }, { name := "addr", type := 12, offset := 1, embedded := false, tag := "", pkgPath := "runtime", byteOffset := 16 }], sz := 2, bytes := 24, zero := Value.agg #[Value.string { data := #[] }, Value.int IntKind.u64 0], cmp := false }),
  (14, { desc := TypeDesc.struct #[{ name := "msg", type := 9, offset := 0, embedded := false, tag := "", pkgPath := "runtime", byteOffset := 0 }, { name := "addr", type := 12, offset := 1, embedded := false, tag := "", pkgPath := "runtime", byteOffset := 16 }], sz := 2, bytes := 24, zero := Value.agg #[Value.string { data := #[] }, Value.int IntKind.u64 0], cmp := false }),
  (15, { desc := TypeDesc.pointer 137, sz := 1, bytes := 8, zero := Value.pointer none, cmp := false }),
  (16, { desc := TypeDesc.pointer 140, sz := 1, bytes := 8, zero := Value.pointer none, cmp := false }),
  (17, { desc := TypeDesc.pointer 148, sz := 1, bytes := 8, zero := Value.pointer none, cmp := false }),
  (18, { desc := TypeDesc.struct #[{ name := "typ", type := 17, offset := 0, embedded := false, tag := "", pkgPath := "internal/runtime/maps", byteOffset := 0 }], sz := 1, bytes := 8, zero := Value.agg #[Value.pointer none], cmp := false }),
  (19, { desc := TypeDesc.struct #[{ name := "typ", type := 17, offset := 0, embedded := false, tag := "", pkgPath := "internal/runtime/maps", byteOffset := 0 }], sz := 1, bytes := 8, zero := Value.agg #[Value.pointer none], cmp := false }),
  (20, { desc := TypeDesc.interface #[], sz := 1, bytes := 16, zero := Value.nilIface, cmp := false }),
  (21, { desc := TypeDesc.int IntKind.i32, sz := 1, bytes := 4, zero := Value.int IntKind.i32 0, cmp := false }),
  (22, { desc := TypeDesc.struct #[{ name := "Dimension", type := 3, offset := 0, embedded := false, tag := "", pkgPath := "", byteOffset := 0 }, { name := "Count", type := 3, offset := 1, embedded := false, tag := "", pkgPath := "", byteOffset := 8 }, { name := "Amount", type := 2, offset := 2, embedded := false, tag := "", pkgPath := "", byteOffset := 16 }], sz := 3, bytes := 24, zero := Value.agg #[Value.int IntKind.i64 0, Value.int IntKind.i64 0, Value.int IntKind.i64 0], cmp := true }),
  (23, { desc := TypeDesc.struct #[{ name := "Dimension", type := 3, offset := 0, embedded := false, tag := "", pkgPath := "", byteOffset := 0 }, { name := "Count", type := 3, offset := 1, embedded := false, tag := "", pkgPath := "", byteOffset := 8 }, { name := "Amount", type := 2, offset := 2, embedded := false, tag := "", pkgPath := "", byteOffset := 16 }], sz := 3, bytes := 24, zero := Value.agg #[Value.int IntKind.i64 0, Value.int IntKind.i64 0, Value.int IntKind.i64 0], cmp := true }),
  (24, { desc := TypeDesc.slice 52, sz := 1, bytes := 24, zero := Value.slice none 0 0, cmp := false }),
  (25, { desc := TypeDesc.struct #[{ name := "ID", type := 9, offset := 0, embedded := false, tag := "", pkgPath := "", byteOffset := 0 }, { name := "Code", type := 9, offset := 1, embedded := false, tag := "", pkgPath := "", byteOffset := 16 }, { name := "Brand", type := 9, offset := 2, embedded := false, tag := "", pkgPath := "", byteOffset := 32 }, { name := "Size", type := 23, offset := 3, embedded := false, tag := "", pkgPath := "", byteOffset := 48 }, { name := "Attributes", type := 24, offset := 6, embedded := false, tag := "", pkgPath := "", byteOffset := 72 }], sz := 7, bytes := 96, zero := Value.agg #[Value.string { data := #[] }, Value.string { data := #[] }, Value.string { data := #[] }, Value.int IntKind.i64 0, Value.int IntKind.i64 0, Value.int IntKind.i64 0, Value.slice none 0 0], cmp := true }),
  (26, { desc := TypeDesc.struct #[{ name := "ID", type := 9, offset := 0, embedded := false, tag := "", pkgPath := "", byteOffset := 0 }, { name := "Code", type := 9, offset := 1, embedded := false, tag := "", pkgPath := "", byteOffset := 16 }, { name := "Brand", type := 9, offset := 2, embedded := false, tag := "", pkgPath := "", byteOffset := 32 }, { name := "Size", type := 23, offset := 3, embedded := false, tag := "", pkgPath := "", byteOffset := 48 }, { name := "Attributes", type := 24, offset := 6, embedded := false, tag := "", pkgPath := "", byteOffset := 72 }], sz := 7, bytes := 96, zero := Value.agg #[Value.string { data := #[] }, Value.string { data := #[] }, Value.string { data := #[] }, Value.int IntKind.i64 0, Value.int IntKind.i64 0, Value.int IntKind.i64 0, Value.slice none 0 0], cmp := true }),
  (27, { desc := TypeDesc.slice 3, sz := 1, bytes := 24, zero := Value.slice none 0 0, cmp := false }),
  (28, { desc := TypeDesc.func #[29] #[26] false, sz := 1, bytes := 8, zero := Value.nilFunc, cmp := false }),
  (29, { desc := TypeDesc.pointer 31, sz := 1, bytes := 8, zero := Value.pointer none, cmp := false }),
  (30, { desc := TypeDesc.struct #[{ name := "L", type := 27, offset := 0, embedded := false, tag := "", pkgPath := "", byteOffset := 0 }, { name := "At", type := 3, offset := 1, embedded := false, tag := "", pkgPath := "", byteOffset := 24 }], sz := 2, bytes := 32, zero := Value.agg #[Value.slice none 0 0, Value.int IntKind.i64 0], cmp := true }),
  (31, { desc := TypeDesc.struct #[{ name := "L", type := 27, offset := 0, embedded := false, tag := "", pkgPath := "", byteOffset := 0 }, { name := "At", type := 3, offset := 1, embedded := false, tag := "", pkgPath := "", byteOffset := 24 }], sz := 2, bytes := 32, zero := Value.agg #[Value.slice none 0 0, Value.int IntKind.i64 0], cmp := true }),
  (32, { desc := TypeDesc.func #[26] #[26] false, sz := 1, bytes := 8, zero := Value.nilFunc, cmp := false }),
  (33, { desc := TypeDesc.int IntKind.i64, sz := 1, bytes := 8, zero := Value.int IntKind.i64 0, cmp := false }),
  (34, { desc := TypeDesc.func #[26] #[33] false, sz := 1, bytes := 8, zero := Value.nilFunc, cmp := false }),
  (35, { desc := TypeDesc.func #[] #[4] false, sz := 1, bytes := 8, zero := Value.nilFunc, cmp := false }),
  (36, { desc := TypeDesc.func #[26, 27] #[4] false, sz := 1, bytes := 8, zero := Value.nilFunc, cmp := false }),
  (37, { desc := TypeDesc.slice 26, sz := 1, bytes := 24, zero := Value.slice none 0 0, cmp := false }),
  (38, { desc := TypeDesc.func #[3, 3] #[3] false, sz := 1, bytes := 8, zero := Value.nilFunc, cmp := false }),
  (39, { desc := TypeDesc.func #[3] #[26] false, sz := 1, bytes := 8, zero := Value.nilFunc, cmp := false }),
  (40, { desc := TypeDesc.func #[37] #[33] false, sz := 1, bytes := 8, zero := Value.nilFunc, cmp := false }),
  (41, { desc := TypeDesc.func #[3] #[4] false, sz := 1, bytes := 8, zero := Value.nilFunc, cmp := false }),
  (42, { desc := TypeDesc.func #[3, 3] #[37] false, sz := 1, bytes := 8, zero := Value.nilFunc, cmp := false }),
  (43, { desc := TypeDesc.func #[3] #[3] false, sz := 1, bytes := 8, zero := Value.nilFunc, cmp := false }),
  (44, { desc := TypeDesc.func #[3] #[9] false, sz := 1, bytes := 8, zero := Value.nilFunc, cmp := false }),
  (45, { desc := TypeDesc.tuple #[26, 4], sz := 1, bytes := 0, zero := Value.tuple #[Value.agg #[Value.string { data := #[] }, Value.string { data := #[] }, Value.string { data := #[] }, Value.int IntKind.i64 0, Value.int IntKind.i64 0, Value.int IntKind.i64 0, Value.slice none 0 0], Value.bool false], cmp := false }),
  (46, { desc := TypeDesc.func #[37, 9] #[26, 4] false, sz := 1, bytes := 8, zero := Value.nilFunc, cmp := false }),
  (47, { desc := TypeDesc.func #[26, 26] #[4] false, sz := 1, bytes := 8, zero := Value.nilFunc, cmp := false }),
  (48, { desc := TypeDesc.func #[27] #[4] false, sz := 1, bytes := 8, zero := Value.nilFunc, cmp := false }),
  (49, { desc := TypeDesc.slice 9, sz := 1, bytes := 24, zero := Value.slice none 0 0, cmp := false }),
  (50, { desc := TypeDesc.slice 23, sz := 1, bytes := 24, zero := Value.slice none 0 0, cmp := false }),
  (51, { desc := TypeDesc.struct #[{ name := "Name", type := 9, offset := 0, embedded := false, tag := "", pkgPath := "", byteOffset := 0 }, { name := "Value", type := 9, offset := 1, embedded := false, tag := "", pkgPath := "", byteOffset := 16 }], sz := 2, bytes := 32, zero := Value.agg #[Value.string { data := #[] }, Value.string { data := #[] }], cmp := true }),
  (52, { desc := TypeDesc.struct #[{ name := "Name", type := 9, offset := 0, embedded := false, tag := "", pkgPath := "", byteOffset := 0 }, { name := "Value", type := 9, offset := 1, embedded := false, tag := "", pkgPath := "", byteOffset := 16 }], sz := 2, bytes := 32, zero := Value.agg #[Value.string { data := #[] }, Value.string { data := #[] }], cmp := true }),
  (53, { desc := TypeDesc.func #[9] #[4] false, sz := 1, bytes := 8, zero := Value.nilFunc, cmp := false }),
  (54, { desc := TypeDesc.func #[9] #[3] false, sz := 1, bytes := 8, zero := Value.nilFunc, cmp := false }),
  (55, { desc := TypeDesc.func #[23] #[33] false, sz := 1, bytes := 8, zero := Value.nilFunc, cmp := false }),
  (56, { desc := TypeDesc.map 9 4, sz := 1, bytes := 8, zero := Value.map none, cmp := false }),
  (57, { desc := TypeDesc.tuple #[3, 4], sz := 1, bytes := 0, zero := Value.tuple #[Value.int IntKind.i64 0, Value.bool false], cmp := false }),
  (58, { desc := TypeDesc.func #[9] #[3, 4] false, sz := 1, bytes := 8, zero := Value.nilFunc, cmp := false }),
  (59, { desc := TypeDesc.int IntKind.u64, sz := 1, bytes := 8, zero := Value.int IntKind.u64 0, cmp := false }),
  (60, { desc := TypeDesc.slice 5, sz := 1, bytes := 24, zero := Value.slice none 0 0, cmp := false }),
  (61, { desc := TypeDesc.func #[37, 62] #[3] false, sz := 1, bytes := 8, zero := Value.nilFunc, cmp := false }),
  (62, { desc := TypeDesc.func #[26] #[4] false, sz := 1, bytes := 8, zero := Value.nilFunc, cmp := false }),
  (63, { desc := TypeDesc.func #[24] #[24] false, sz := 1, bytes := 8, zero := Value.nilFunc, cmp := false }),
  (64, { desc := TypeDesc.func #[9, 3, 3] #[4] false, sz := 1, bytes := 8, zero := Value.nilFunc, cmp := false }),
  (65, { desc := TypeDesc.tuple #[27, 33], sz := 1, bytes := 0, zero := Value.tuple #[Value.slice none 0 0, Value.int IntKind.i64 0], cmp := false }),
  (66, { desc := TypeDesc.func #[9] #[27, 33] false, sz := 1, bytes := 8, zero := Value.nilFunc, cmp := false }),
  (67, { desc := TypeDesc.func #[9, 9] #[9] false, sz := 1, bytes := 8, zero := Value.nilFunc, cmp := false }),
  (68, { desc := TypeDesc.func #[9, 70] #[4] false, sz := 1, bytes := 8, zero := Value.nilFunc, cmp := false }),
  (69, { desc := TypeDesc.func #[9, 21] #[4] false, sz := 1, bytes := 8, zero := Value.nilFunc, cmp := false }),
  (70, { desc := TypeDesc.func #[21] #[4] false, sz := 1, bytes := 8, zero := Value.nilFunc, cmp := false }),
  (71, { desc := TypeDesc.func #[9, 9] #[49] false, sz := 1, bytes := 8, zero := Value.nilFunc, cmp := false }),
  (72, { desc := TypeDesc.interface #[("Error", 135)], sz := 1, bytes := 16, zero := Value.nilIface, cmp := false }),
  (73, { desc := TypeDesc.interface #[("Error", 135)], sz := 1, bytes := 16, zero := Value.nilIface, cmp := false }),
  (74, { desc := TypeDesc.tuple #[3, 73], sz := 1, bytes := 0, zero := Value.tuple #[Value.int IntKind.i64 0, Value.nilIface], cmp := false }),
  (75, { desc := TypeDesc.func #[9] #[3, 73] false, sz := 1, bytes := 8, zero := Value.nilFunc, cmp := false }),
  (76, { desc := TypeDesc.tuple #[9, 33], sz := 1, bytes := 0, zero := Value.tuple #[Value.string { data := #[] }, Value.int IntKind.i64 0], cmp := false }),
  (77, { desc := TypeDesc.func #[27] #[9, 33] false, sz := 1, bytes := 8, zero := Value.nilFunc, cmp := false }),
  (78, { desc := TypeDesc.func #[9, 5] #[9] false, sz := 1, bytes := 8, zero := Value.nilFunc, cmp := false }),
  (82, { desc := TypeDesc.func #[9] #[80, 4] false, sz := 1, bytes := 8, zero := Value.nilFunc, cmp := false }),
  (83, { desc := TypeDesc.func #[9, 84] #[9] false, sz := 1, bytes := 8, zero := Value.nilFunc, cmp := false }),
  (84, { desc := TypeDesc.pointer 80, sz := 1, bytes := 8, zero := Value.pointer none, cmp := false }),
  (85, { desc := TypeDesc.func #[9, 70] #[3] false, sz := 1, bytes := 8, zero := Value.nilFunc, cmp := false }),
  (86, { desc := TypeDesc.func #[9, 21] #[3] false, sz := 1, bytes := 8, zero := Value.nilFunc, cmp := false }),
  (87, { desc := TypeDesc.func #[9, 9, 3, 3] #[49] false, sz := 1, bytes := 8, zero := Value.nilFunc, cmp := false }),
  (88, { desc := TypeDesc.func #[9, 9, 3, 3, 73] #[73] false, sz := 1, bytes := 8, zero := Value.nilFunc, cmp := false }),
  (89, { desc := TypeDesc.func #[27] #[3] false, sz := 1, bytes := 8, zero := Value.nilFunc, cmp := false }),
  (90, { desc := TypeDesc.func #[5] #[4] false, sz := 1, bytes := 8, zero := Value.nilFunc, cmp := false }),
  (91, { desc := TypeDesc.tuple #[21, 3], sz := 1, bytes := 0, zero := Value.tuple #[Value.int IntKind.i32 0, Value.int IntKind.i64 0], cmp := false }),
  (92, { desc := TypeDesc.func #[9] #[21, 3] false, sz := 1, bytes := 8, zero := Value.nilFunc, cmp := false }),
  (93, { desc := TypeDesc.func #[9, 70, 4] #[3] false, sz := 1, bytes := 8, zero := Value.nilFunc, cmp := false }),
  (94, { desc := TypeDesc.func #[9, 5] #[3] false, sz := 1, bytes := 8, zero := Value.nilFunc, cmp := false }),
  (95, { desc := TypeDesc.int IntKind.u64, sz := 1, bytes := 8, zero := Value.int IntKind.u64 0, cmp := false }),
  (96, { desc := TypeDesc.func #[9, 9] #[3] false, sz := 1, bytes := 8, zero := Value.nilFunc, cmp := false }),
  (97, { desc := TypeDesc.func #[9, 3] #[49] false, sz := 1, bytes := 8, zero := Value.nilFunc, cmp := false }),
  (98, { desc := TypeDesc.int IntKind.i64, sz := 1, bytes := 8, zero := Value.int IntKind.i64 0, cmp := false }),
  (99, { desc := TypeDesc.tuple #[2, 73], sz := 1, bytes := 0, zero := Value.tuple #[Value.int IntKind.i64 0, Value.nilIface], cmp := false }),
  (100, { desc := TypeDesc.func #[9, 3, 3] #[2, 73] false, sz := 1, bytes := 8, zero := Value.nilFunc, cmp := false }),
  (101, { desc := TypeDesc.pointer 108, sz := 1, bytes := 8, zero := Value.pointer none, cmp := false }),
  (102, { desc := TypeDesc.func #[9, 9] #[101] false, sz := 1, bytes := 8, zero := Value.nilFunc, cmp := false }),
  (103, { desc := TypeDesc.func #[9, 9, 3] #[101] false, sz := 1, bytes := 8, zero := Value.nilFunc, cmp := false }),
  (104, { desc := TypeDesc.tuple #[59, 73], sz := 1, bytes := 0, zero := Value.tuple #[Value.int IntKind.u64 0, Value.nilIface], cmp := false }),
  (105, { desc := TypeDesc.func #[9, 3, 3] #[59, 73] false, sz := 1, bytes := 8, zero := Value.nilFunc, cmp := false }),
  (106, { desc := TypeDesc.func #[9] #[9] false, sz := 1, bytes := 8, zero := Value.nilFunc, cmp := false }),
  (107, { desc := TypeDesc.struct #[{ name := "Func", type := 9, offset := 0, embedded := false, tag := "", pkgPath := "", byteOffset := 0 }, { name := "Num", type := 9, offset := 1, embedded := false, tag := "", pkgPath := "", byteOffset := 16 }, { name := "Err", type := 73, offset := 2, embedded := false, tag := "", pkgPath := "", byteOffset := 32 }], sz := 3, bytes := 48, zero := Value.agg #[Value.string { data := #[] }, Value.string { data := #[] }, Value.nilIface], cmp := false }),
  (108, { desc := TypeDesc.struct #[{ name := "Func", type := 9, offset := 0, embedded := false, tag := "", pkgPath := "", byteOffset := 0 }, { name := "Num", type := 9, offset := 1, embedded := false, tag := "", pkgPath := "", byteOffset := 16 }, { name := "Err", type := 73, offset := 2, embedded := false, tag := "", pkgPath := "", byteOffset := 32 }], sz := 3, bytes := 48, zero := Value.agg #[Value.string { data := #[] }, Value.string { data := #[] }, Value.nilIface], cmp := false }),
  (109, { desc := TypeDesc.func #[9] #[73] false, sz := 1, bytes := 8, zero := Value.nilFunc, cmp := false }),
  (110, { desc := TypeDesc.func #[2, 3] #[9] false, sz := 1, bytes := 8, zero := Value.nilFunc, cmp := false }),
  (112, { desc := TypeDesc.struct #[{ name := "lo", type := 5, offset := 0, embedded := false, tag := "", pkgPath := "unicode/utf8", byteOffset := 0 }, { name := "hi", type := 5, offset := 1, embedded := false, tag := "", pkgPath := "unicode/utf8", byteOffset := 1 }], sz := 2, bytes := 2, zero := Value.agg #[Value.int IntKind.u8 0, Value.int IntKind.u8 0], cmp := true }),
  (113, { desc := TypeDesc.struct #[{ name := "lo", type := 5, offset := 0, embedded := false, tag := "", pkgPath := "unicode/utf8", byteOffset := 0 }, { name := "hi", type := 5, offset := 1, embedded := false, tag := "", pkgPath := "unicode/utf8", byteOffset := 1 }], sz := 2, bytes := 2, zero := Value.agg #[Value.int IntKind.u8 0, Value.int IntKind.u8 0], cmp := true }),
  (114, { desc := TypeDesc.array 16 113, sz := 32, bytes := 32, zero := Value.agg #[Value.int IntKind.u8 0, Value.int IntKind.u8 0, Value.int IntKind.u8 0, Value.int IntKind.u8 0, Value.int IntKind.u8 0, Value.int IntKind.u8 0, Value.int IntKind.u8 0, Value.int IntKind.u8 0, Value.int IntKind.u8 0, Value.int IntKind.u8 0, Value.int IntKind.u8 0, Value.int IntKind.u8 0, Value.int IntKind.u8 0, Value.int IntKind.u8 0, Value.int IntKind.u8 0, Value.int IntKind.u8 0, Value.int IntKind.u8 0, Value.int IntKind.u8 0, Value.int IntKind.u8 0, Value.int IntKind.u8 0, Value.int IntKind.u8 0, Value.int IntKind.u8 0, Value.int IntKind.u8 0, Value.int IntKind.u8 0, Value.int IntKind.u8 0, Value.int IntKind.u8 0, Value.int IntKind.u8 0, Value.int IntKind.u8 0, Value.int IntKind.u8 0, Value.int IntKind.u8 0, Value.int IntKind.u8 0, Value.int IntKind.u8 0], cmp := false }),
  (115, { desc := TypeDesc.func #[5] #[5] false, sz := 1, bytes := 8, zero := Value.nilFunc, cmp := false }),
  (116, { desc := TypeDesc.pointer 5, sz := 1, bytes := 8, zero := Value.pointer none, cmp := false }),
  (117, { desc := TypeDesc.pointer 119, sz := 1, bytes := 8, zero := Value.pointer none, cmp := false }),
  (118, { desc := TypeDesc.struct #[{ name := "s", type := 9, offset := 0, embedded := false, tag := "", pkgPath := "errors", byteOffset := 0 }], sz := 1, bytes := 16, zero := Value.agg #[Value.string { data := #[] }], cmp := true }),
  (119, { desc := TypeDesc.struct #[{ name := "s", type := 9, offset := 0, embedded := false, tag := "", pkgPath := "errors", byteOffset := 0 }], sz := 1, bytes := 16, zero := Value.agg #[Value.string { data := #[] }], cmp := true }),
  (120, { desc := TypeDesc.array 24 5, sz := 24, bytes := 24, zero := Value.agg #[Value.int IntKind.u8 0, Value.int IntKind.u8 0, Value.int IntKind.u8 0, Value.int IntKind.u8 0, Value.int IntKind.u8 0, Value.int IntKind.u8 0, Value.int IntKind.u8 0, Value.int IntKind.u8 0, Value.int IntKind.u8 0, Value.int IntKind.u8 0, Value.int IntKind.u8 0, Value.int IntKind.u8 0, Value.int IntKind.u8 0, Value.int IntKind.u8 0, Value.int IntKind.u8 0, Value.int IntKind.u8 0, Value.int IntKind.u8 0, Value.int IntKind.u8 0, Value.int IntKind.u8 0, Value.int IntKind.u8 0, Value.int IntKind.u8 0, Value.int IntKind.u8 0, Value.int IntKind.u8 0, Value.int IntKind.u8 0], cmp := false }),
  (121, { desc := TypeDesc.func #[59] #[3] false, sz := 1, bytes := 8, zero := Value.nilFunc, cmp := false }),
  (122, { desc := TypeDesc.func #[60, 59] #[] false, sz := 1, bytes := 8, zero := Value.nilFunc, cmp := false }),
  (123, { desc := TypeDesc.tuple #[60, 9], sz := 1, bytes := 0, zero := Value.tuple #[Value.slice none 0 0, Value.string { data := #[] }], cmp := false }),
  (124, { desc := TypeDesc.func #[60, 59, 3, 4, 4] #[60, 9] false, sz := 1, bytes := 8, zero := Value.nilFunc, cmp := false }),
  (125, { desc := TypeDesc.int IntKind.u32, sz := 1, bytes := 4, zero := Value.int IntKind.u32 0, cmp := false }),
  (126, { desc := TypeDesc.tuple #[125, 125], sz := 1, bytes := 0, zero := Value.tuple #[Value.int IntKind.u32 0, Value.int IntKind.u32 0], cmp := false }),
  (127, { desc := TypeDesc.func #[9] #[125, 125] false, sz := 1, bytes := 8, zero := Value.nilFunc, cmp := false }),
  (128, { desc := TypeDesc.func #[4] #[3] false, sz := 1, bytes := 8, zero := Value.nilFunc, cmp := false }),
  (129, { desc := TypeDesc.array 20 59, sz := 20, bytes := 160, zero := Value.agg #[Value.int IntKind.u64 0, Value.int IntKind.u64 0, Value.int IntKind.u64 0, Value.int IntKind.u64 0, Value.int IntKind.u64 0, Value.int IntKind.u64 0, Value.int IntKind.u64 0, Value.int IntKind.u64 0, Value.int IntKind.u64 0, Value.int IntKind.u64 0, Value.int IntKind.u64 0, Value.int IntKind.u64 0, Value.int IntKind.u64 0, Value.int IntKind.u64 0, Value.int IntKind.u64 0, Value.int IntKind.u64 0, Value.int IntKind.u64 0, Value.int IntKind.u64 0, Value.int IntKind.u64 0, Value.int IntKind.u64 0], cmp := false }),
  (130, { desc := TypeDesc.array 65 5, sz := 65, bytes := 65, zero := Value.agg ([Value.int IntKind.u8 0, Value.int IntKind.u8 0, Value.int IntKind.u8 0, Value.int IntKind.u8 0, Value.int IntKind.u8 0, Value.int IntKind.u8 0, Value.int IntKind.u8 0, Value.int IntKind.u8 0, Value.int IntKind.u8 0, Value.int IntKind.u8 0, Value.int IntKind.u8 0, Value.int IntKind.u8 0, Value.int IntKind.u8 0, Value.int IntKind.u8 0, Value.int IntKind.u8 0, Value.int IntKind.u8 0, Value.int IntKind.u8 0, Value.int IntKind.u8 0, Value.int IntKind.u8 0, Value.int IntKind.u8 0, Value.int IntKind.u8 0, Value.int IntKind.u8 0, Value.int IntKind.u8 0, Value.int IntKind.u8 0, Value.int IntKind.u8 0, Value.int IntKind.u8 0, Value.int IntKind.u8 0, Value.int IntKind.u8 0, Value.int IntKind.u8 0, Value.int IntKind.u8 0, Value.int IntKind.u8 0, Value.int IntKind.u8 0].append [Value.int IntKind.u8 0, Value.int IntKind.u8 0, Value.int IntKind.u8 0, Value.int IntKind.u8 0, Value.int IntKind.u8 0, Value.int IntKind.u8 0, Value.int IntKind.u8 0, Value.int IntKind.u8 0, Value.int IntKind.u8 0, Value.int IntKind.u8 0, Value.int IntKind.u8 0, Value.int IntKind.u8 0, Value.int IntKind.u8 0, Value.int IntKind.u8 0, Value.int IntKind.u8 0, Value.int IntKind.u8 0, Value.int IntKind.u8 0, Value.int IntKind.u8 0, Value.int IntKind.u8 0, Value.int IntKind.u8 0, Value.int IntKind.u8 0, Value.int IntKind.u8 0, Value.int IntKind.u8 0, Value.int IntKind.u8 0, Value.int IntKind.u8 0, Value.int IntKind.u8 0, Value.int IntKind.u8 0, Value.int IntKind.u8 0, Value.int IntKind.u8 0, Value.int IntKind.u8 0, Value.int IntKind.u8 0, Value.int IntKind.u8 0, Value.int IntKind.u8 0]).toArray, cmp := false }),
  (131, { desc := TypeDesc.func #[95] #[3] false, sz := 1, bytes := 8, zero := Value.nilFunc, cmp := false }),
  (132, { desc := TypeDesc.func #[125] #[3] false, sz := 1, bytes := 8, zero := Value.nilFunc, cmp := false }),
  (133, { desc := TypeDesc.array 32 5, sz := 32, bytes := 32, zero := Value.agg #[Value.int IntKind.u8 0, Value.int IntKind.u8 0, Value.int IntKind.u8 0, Value.int IntKind.u8 0, Value.int IntKind.u8 0, Value.int IntKind.u8 0, Value.int IntKind.u8 0, Value.int IntKind.u8 0, Value.int IntKind.u8 0, Value.int IntKind.u8 0, Value.int IntKind.u8 0, Value.int IntKind.u8 0, Value.int IntKind.u8 0, Value.int IntKind.u8 0, Value.int IntKind.u8 0, Value.int IntKind.u8 0, Value.int IntKind.u8 0, Value.int IntKind.u8 0, Value.int IntKind.u8 0, Value.int IntKind.u8 0, Value.int IntKind.u8 0, Value.int IntKind.u8 0, Value.int IntKind.u8 0, Value.int IntKind.u8 0, Value.int IntKind.u8 0, Value.int IntKind.u8 0, Value.int IntKind.u8 0, Value.int IntKind.u8 0, Value.int IntKind.u8 0, Value.int IntKind.u8 0, Value.int IntKind.u8 0, Value.int IntKind.u8 0], cmp := false }),
  (134, { desc := TypeDesc.array 64 5, sz := 64, bytes := 64, zero := Value.agg #[Value.int IntKind.u8 0, Value.int IntKind.u8 0, Value.int IntKind.u8 0, Value.int IntKind.u8 0, Value.int IntKind.u8 0, Value.int IntKind.u8 0, Value.int IntKind.u8 0, Value.int IntKind.u8 0, Value.int IntKind.u8 0, Value.int IntKind.u8 0, Value.int IntKind.u8 0, Value.int IntKind.u8 0, Value.int IntKind.u8 0, Value.int IntKind.u8 0, Value.int IntKind.u8 0, Value.int IntKind.u8 0, Value.int IntKind.u8 0, Value.int IntKind.u8 0, Value.int IntKind.u8 0, Value.int IntKind.u8 0, Value.int IntKind.u8 0, Value.int IntKind.u8 0, Value.int IntKind.u8 0, Value.int IntKind.u8 0, Value.int IntKind.u8 0, Value.int IntKind.u8 0, Value.int IntKind.u8 0, Value.int IntKind.u8 0, Value.int IntKind.u8 0, Value.int IntKind.u8 0, Value.int IntKind.u8 0, Value.int IntKind.u8 0, Value.int IntKind.u8 0, Value.int IntKind.u8 0, Value.int IntKind.u8 0, Value.int IntKind.u8 0, Value.int IntKind.u8 0, Value.int IntKind.u8 0, Value.int IntKind.u8 0, Value.int IntKind.u8 0, Value.int IntKind.u8 0, Value.int IntKind.u8 0, Value.int IntKind.u8 0, Value.int IntKind.u8 0, Value.int IntKind.u8 0, Value.int IntKind.u8 0, Value.int IntKind.u8 0, Value.int IntKind.u8 0, Value.int IntKind.u8 0, Value.int IntKind.u8 0, Value.int IntKind.u8 0, Value.int IntKind.u8 0, Value.int IntKind.u8 0, Value.int IntKind.u8 0, Value.int IntKind.u8 0, Value.int IntKind.u8 0, Value.int IntKind.u8 0, Value.int IntKind.u8 0, Value.int IntKind.u8 0, Value.int IntKind.u8 0, Value.int IntKind.u8 0, Value.int IntKind.u8 0, Value.int IntKind.u8 0, Value.int IntKind.u8 0], cmp := false }),
  (135, { desc := TypeDesc.func #[] #[9] false, sz := 1, bytes := 8, zero := Value.nilFunc, cmp := false }),
  (136, { desc := TypeDesc.struct #[{ name := "_interface", type := 17, offset := 0, embedded := false, tag := "", pkgPath := "runtime", byteOffset := 0 }, { name := "concrete", type := 17, offset := 1, embedded := false, tag := "", pkgPath := "runtime", byteOffset := 8 }, { name := "asserted", type := 17, offset := 2, embedded := false, tag := "", pkgPath := "runtime", byteOffset := 16 }, { name := "missingMethod", type := 9, offset := 3, embedded := false, tag := "", pkgPath := "runtime", byteOffset := 24 }], sz := 4, bytes := 40, zero := Value.agg #[Value.pointer none, Value.pointer none, Value.pointer none, Value.string { data := #[] }], cmp := false }),
  (137, { desc := TypeDesc.struct #[{ name := "_interface", type := 17, offset := 0, embedded := false, tag := "", pkgPath := "runtime", byteOffset := 0 }, { name := "concrete", type := 17, offset := 1, embedded := false, tag := "", pkgPath := "runtime", byteOffset := 8 }, { name := "asserted", type := 17, offset := 2, embedded := false, tag := "", pkgPath := "runtime", byteOffset := 16 }, { name := "missingMethod", type := 9, offset := 3, embedded := false, tag := "", pkgPath := "runtime", byteOffset := 24 }], sz := 4, bytes := 40, zero := Value.agg #[Value.pointer none, Value.pointer none, Value.pointer none, Value.string { data := #[] }], cmp := false }),
  (138, { desc := TypeDesc.array 0 16, sz := 0, bytes := 0, zero := Value.agg #[], cmp := false }),
  (139, { desc := TypeDesc.struct #[{ name := "_", type := 138, offset := 0, embedded := false, tag := "", pkgPath := "runtime", byteOffset := 0 }], sz := 0, bytes := 0, zero := Value.agg #[], cmp := false }),
  (140, { desc := TypeDesc.struct #[{ name := "_", type := 138, offset := 0, embedded := false, tag := "", pkgPath := "runtime", byteOffset := 0 }], sz := 0, bytes := 0, zero := Value.agg #[], cmp := false }),
  (141, { desc := TypeDesc.func #[] #[3] false, sz := 1, bytes := 8, zero := Value.nilFunc, cmp := false }),
  (142, { desc := TypeDesc.int IntKind.u8, sz := 1, bytes := 1, zero := Value.int IntKind.u8 0, cmp := false }),
  (143, { desc := TypeDesc.int IntKind.u8, sz := 1, bytes := 1, zero := Value.int IntKind.u8 0, cmp := false }),
  (144, { desc := TypeDesc.func #[149, 149] #[4] false, sz := 1, bytes := 8, zero := Value.nilFunc, cmp := false }),
  (145, { desc := TypeDesc.int IntKind.i32, sz := 1, bytes := 4, zero := Value.int IntKind.i32 0, cmp := false }),
  (146, { desc := TypeDesc.int IntKind.i32, sz := 1, bytes := 4, zero := Value.int IntKind.i32 0, cmp := false }),
  (147, { desc := TypeDesc.struct #[{ name := "Size_", type := 12, offset := 0, embedded := false, tag := "", pkgPath := "", byteOffset := 0 }, { name := "PtrBytes", type := 12, offset := 1, embedded := false, tag := "", pkgPath := "", byteOffset := 8 }, { name := "Hash", type := 125, offset := 2, embedded := false, tag := "", pkgPath := "", byteOffset := 16 }, { name := "TFlag", type := 142, offset := 3, embedded := false, tag := "", pkgPath := "", byteOffset := 20 }, { name := "Align_", type := 5, offset := 4, embedded := false, tag := "", pkgPath := "", byteOffset := 21 }, { name := "FieldAlign_", type := 5, offset := 5, embedded := false, tag := "", pkgPath := "", byteOffset := 22 }, { name := "Kind_", type := 143, offset := 6, embedded := false, tag := "", pkgPath := "", byteOffset := 23 }, { name := "Equal", type := 144, offset := 7, embedded := false, tag := "", pkgPath := "", byteOffset := 24 }, { name := "GCData", type := 116, offset := 8, embedded := false, tag := "", pkgPath := "", byteOffset := 32 }, { name := "Str", type := 145, offset := 9, embedded := false, tag := "", pkgPath := "", byteOffset := 40 }, { name := "PtrToThis", type := 146, offset := 10, embedded := false, tag := "", pkgPath := "", byteOffset := 44 }], sz := 11, bytes := 48, zero := Value.agg #[Value.int IntKind.u64 0, Value.int IntKind.u64 0, Value.int IntKind.u32 0, Value.int IntKind.u8 0, Value.int IntKind.u8 0, Value.int IntKind.u8 0, Value.int IntKind.u8 0, Value.nilFunc, Value.pointer none, Value.int IntKind.i32 0, Value.int IntKind.i32 0], cmp := false }),
  (148, { desc := TypeDesc.struct #[{ name := "Size_", type := 12, offset := 0, embedded := false, tag := "", pkgPath := "", byteOffset := 0 }, { name := "PtrBytes", type := 12, offset := 1, embedded := false, tag := "", pkgPath := "", byteOffset := 8 }, { name := "Hash", type := 125, offset := 2, embedded := false, tag := "", pkgPath := "", byteOffset := 16 }, { name := "TFlag", type := 142, offset := 3, embedded := false, tag := "", pkgPath := "", byteOffset := 20 }, { name := "Align_", type := 5, offset := 4, embedded := false, tag := "", pkgPath := "", byteOffset := 21 }, { name := "FieldAlign_", type := 5, offset := 5, embedded := false, tag := "", pkgPath := "", byteOffset := 22 }, { name := "Kind_", type := 143, offset := 6, embedded := false, tag := "", pkgPath := "", byteOffset := 23 }, { name := "Equal", type := 144, offset := 7, embedded := false, tag := "", pkgPath := "", byteOffset := 24 }, { name := "GCData", type := 116, offset := 8, embedded := false, tag := "", pkgPath := "", byteOffset := 32 }, { name := "Str", type := 145, offset := 9, embedded := false, tag := "", pkgPath := "", byteOffset := 40 }, { name := "PtrToThis", type := 146, offset := 10, embedded := false, tag := "", pkgPath := "", byteOffset := 44 }], sz := 11, bytes := 48, zero := Value.agg #[Value.int IntKind.u64 0, Value.int IntKind.u64 0, Value.int IntKind.u32 0, Value.int IntKind.u8 0, Value.int IntKind.u8 0, Value.int IntKind.u8 0, Value.int IntKind.u8 0, Value.nilFunc, Value.pointer none, Value.int IntKind.i32 0, Value.int IntKind.i32 0], cmp := false }),
  (149, { desc := TypeDesc.unsafePointer, sz := 1, bytes := 8, zero := Value.pointer none, cmp := false })]

theorem te_ok : TE.ok Tryd.prog te := by
  refine TE.ok_cons Tryd.underlying0 ⟨Tryd.t0, Tryd.type0, rfl, rfl, rfl⟩ (fun h => by cases h) ?_
  refine TE.ok_cons Tryd.underlying1 ⟨Tryd.t1, Tryd.type1, rfl, rfl, rfl⟩ (fun h => by cases h) ?_
  refine TE.ok_cons Tryd.underlying2 ⟨Tryd.t2, Tryd.type2, rfl, rfl, rfl⟩ (fun h => by cases h) ?_
  refine TE.ok_cons Tryd.underlying3 ⟨Tryd.t3, Tryd.type3, rfl, rfl, rfl⟩ (fun h => by cases h) ?_
  refine TE.ok_cons Tryd.underlying4 ⟨Tryd.t4, Tryd.type4, rfl, rfl, rfl⟩ (fun h => by cases h) ?_
  refine TE.ok_cons Tryd.underlying5 ⟨Tryd.t5, Tryd.type5, rfl, rfl, rfl⟩ (fun h => by cases h) ?_
  refine TE.ok_cons Tryd.underlying6 ⟨Tryd.t6, Tryd.type6, rfl, rfl, rfl⟩ (fun h => by cases h) ?_
  refine TE.ok_cons Tryd.underlying7 ⟨Tryd.t7, Tryd.type7, rfl, rfl, rfl⟩ (fun _ => ⟨Tryd.stoodInHeld7, Tryd.eqGuardType7, fun fs h f hf => by cases h; revert f; decide⟩) ?_
  refine TE.ok_cons Tryd.underlying8 ⟨Tryd.t8, Tryd.type8, rfl, rfl, rfl⟩ (fun _ => ⟨Tryd.stoodInHeld8, Tryd.eqGuardType8, fun fs h f hf => by cases h; revert f; decide⟩) ?_
  refine TE.ok_cons Tryd.underlying9 ⟨Tryd.t9, Tryd.type9, rfl, rfl, rfl⟩ (fun h => by cases h) ?_
  refine TE.ok_cons Tryd.underlying10 ⟨Tryd.t10, Tryd.type10, rfl, rfl, rfl⟩ (fun h => by cases h) ?_
  refine TE.ok_cons Tryd.underlying11 ⟨Tryd.t11, Tryd.type11, rfl, rfl, rfl⟩ (fun h => by cases h) ?_
  refine TE.ok_cons Tryd.underlying12 ⟨Tryd.t12, Tryd.type12, rfl, rfl, rfl⟩ (fun h => by cases h) ?_
  refine TE.ok_cons Tryd.underlying13 ⟨Tryd.t13, Tryd.type13, rfl, rfl, rfl⟩ (fun h => by cases h) ?_
  refine TE.ok_cons Tryd.underlying14 ⟨Tryd.t14, Tryd.type14, rfl, rfl, rfl⟩ (fun h => by cases h) ?_
  refine TE.ok_cons Tryd.underlying15 ⟨Tryd.t15, Tryd.type15, rfl, rfl, rfl⟩ (fun h => by cases h) ?_
  refine TE.ok_cons Tryd.underlying16 ⟨Tryd.t16, Tryd.type16, rfl, rfl, rfl⟩ (fun h => by cases h) ?_
  refine TE.ok_cons Tryd.underlying17 ⟨Tryd.t17, Tryd.type17, rfl, rfl, rfl⟩ (fun h => by cases h) ?_
  refine TE.ok_cons Tryd.underlying18 ⟨Tryd.t18, Tryd.type18, rfl, rfl, rfl⟩ (fun h => by cases h) ?_
  refine TE.ok_cons Tryd.underlying19 ⟨Tryd.t19, Tryd.type19, rfl, rfl, rfl⟩ (fun h => by cases h) ?_
  refine TE.ok_cons Tryd.underlying20 ⟨Tryd.t20, Tryd.type20, rfl, rfl, rfl⟩ (fun h => by cases h) ?_
  refine TE.ok_cons Tryd.underlying21 ⟨Tryd.t21, Tryd.type21, rfl, rfl, rfl⟩ (fun h => by cases h) ?_
  refine TE.ok_cons Tryd.underlying22 ⟨Tryd.t22, Tryd.type22, rfl, rfl, rfl⟩ (fun _ => ⟨Tryd.stoodInHeld22, Tryd.eqGuardType22, fun fs h f hf => by cases h; revert f; decide⟩) ?_
  refine TE.ok_cons Tryd.underlying23 ⟨Tryd.t23, Tryd.type23, rfl, rfl, rfl⟩ (fun _ => ⟨Tryd.stoodInHeld23, Tryd.eqGuardType23, fun fs h f hf => by cases h; revert f; decide⟩) ?_
  refine TE.ok_cons Tryd.underlying24 ⟨Tryd.t24, Tryd.type24, rfl, rfl, rfl⟩ (fun h => by cases h) ?_
  refine TE.ok_cons Tryd.underlying25 ⟨Tryd.t25, Tryd.type25, rfl, rfl, rfl⟩ (fun _ => ⟨Tryd.stoodInHeld25, Tryd.eqGuardType25, fun fs h f hf => by cases h; revert f; decide⟩) ?_
  refine TE.ok_cons Tryd.underlying26 ⟨Tryd.t26, Tryd.type26, rfl, rfl, rfl⟩ (fun _ => ⟨Tryd.stoodInHeld26, Tryd.eqGuardType26, fun fs h f hf => by cases h; revert f; decide⟩) ?_
  refine TE.ok_cons Tryd.underlying27 ⟨Tryd.t27, Tryd.type27, rfl, rfl, rfl⟩ (fun h => by cases h) ?_
  refine TE.ok_cons Tryd.underlying28 ⟨Tryd.t28, Tryd.type28, rfl, rfl, rfl⟩ (fun h => by cases h) ?_
  refine TE.ok_cons Tryd.underlying29 ⟨Tryd.t29, Tryd.type29, rfl, rfl, rfl⟩ (fun h => by cases h) ?_
  refine TE.ok_cons Tryd.underlying30 ⟨Tryd.t30, Tryd.type30, rfl, rfl, rfl⟩ (fun _ => ⟨Tryd.stoodInHeld30, Tryd.eqGuardType30, fun fs h f hf => by cases h; revert f; decide⟩) ?_
  refine TE.ok_cons Tryd.underlying31 ⟨Tryd.t31, Tryd.type31, rfl, rfl, rfl⟩ (fun _ => ⟨Tryd.stoodInHeld31, Tryd.eqGuardType31, fun fs h f hf => by cases h; revert f; decide⟩) ?_
  refine TE.ok_cons Tryd.underlying32 ⟨Tryd.t32, Tryd.type32, rfl, rfl, rfl⟩ (fun h => by cases h) ?_
  refine TE.ok_cons Tryd.underlying33 ⟨Tryd.t33, Tryd.type33, rfl, rfl, rfl⟩ (fun h => by cases h) ?_
  refine TE.ok_cons Tryd.underlying34 ⟨Tryd.t34, Tryd.type34, rfl, rfl, rfl⟩ (fun h => by cases h) ?_
  refine TE.ok_cons Tryd.underlying35 ⟨Tryd.t35, Tryd.type35, rfl, rfl, rfl⟩ (fun h => by cases h) ?_
  refine TE.ok_cons Tryd.underlying36 ⟨Tryd.t36, Tryd.type36, rfl, rfl, rfl⟩ (fun h => by cases h) ?_
  refine TE.ok_cons Tryd.underlying37 ⟨Tryd.t37, Tryd.type37, rfl, rfl, rfl⟩ (fun h => by cases h) ?_
  refine TE.ok_cons Tryd.underlying38 ⟨Tryd.t38, Tryd.type38, rfl, rfl, rfl⟩ (fun h => by cases h) ?_
  refine TE.ok_cons Tryd.underlying39 ⟨Tryd.t39, Tryd.type39, rfl, rfl, rfl⟩ (fun h => by cases h) ?_
  refine TE.ok_cons Tryd.underlying40 ⟨Tryd.t40, Tryd.type40, rfl, rfl, rfl⟩ (fun h => by cases h) ?_
  refine TE.ok_cons Tryd.underlying41 ⟨Tryd.t41, Tryd.type41, rfl, rfl, rfl⟩ (fun h => by cases h) ?_
  refine TE.ok_cons Tryd.underlying42 ⟨Tryd.t42, Tryd.type42, rfl, rfl, rfl⟩ (fun h => by cases h) ?_
  refine TE.ok_cons Tryd.underlying43 ⟨Tryd.t43, Tryd.type43, rfl, rfl, rfl⟩ (fun h => by cases h) ?_
  refine TE.ok_cons Tryd.underlying44 ⟨Tryd.t44, Tryd.type44, rfl, rfl, rfl⟩ (fun h => by cases h) ?_
  refine TE.ok_cons Tryd.underlying45 ⟨Tryd.t45, Tryd.type45, rfl, rfl, rfl⟩ (fun h => by cases h) ?_
  refine TE.ok_cons Tryd.underlying46 ⟨Tryd.t46, Tryd.type46, rfl, rfl, rfl⟩ (fun h => by cases h) ?_
  refine TE.ok_cons Tryd.underlying47 ⟨Tryd.t47, Tryd.type47, rfl, rfl, rfl⟩ (fun h => by cases h) ?_
  refine TE.ok_cons Tryd.underlying48 ⟨Tryd.t48, Tryd.type48, rfl, rfl, rfl⟩ (fun h => by cases h) ?_
  refine TE.ok_cons Tryd.underlying49 ⟨Tryd.t49, Tryd.type49, rfl, rfl, rfl⟩ (fun h => by cases h) ?_
  refine TE.ok_cons Tryd.underlying50 ⟨Tryd.t50, Tryd.type50, rfl, rfl, rfl⟩ (fun h => by cases h) ?_
  refine TE.ok_cons Tryd.underlying51 ⟨Tryd.t51, Tryd.type51, rfl, rfl, rfl⟩ (fun _ => ⟨Tryd.stoodInHeld51, Tryd.eqGuardType51, fun fs h f hf => by cases h; revert f; decide⟩) ?_
  refine TE.ok_cons Tryd.underlying52 ⟨Tryd.t52, Tryd.type52, rfl, rfl, rfl⟩ (fun _ => ⟨Tryd.stoodInHeld52, Tryd.eqGuardType52, fun fs h f hf => by cases h; revert f; decide⟩) ?_
  refine TE.ok_cons Tryd.underlying53 ⟨Tryd.t53, Tryd.type53, rfl, rfl, rfl⟩ (fun h => by cases h) ?_
  refine TE.ok_cons Tryd.underlying54 ⟨Tryd.t54, Tryd.type54, rfl, rfl, rfl⟩ (fun h => by cases h) ?_
  refine TE.ok_cons Tryd.underlying55 ⟨Tryd.t55, Tryd.type55, rfl, rfl, rfl⟩ (fun h => by cases h) ?_
  refine TE.ok_cons Tryd.underlying56 ⟨Tryd.t56, Tryd.type56, rfl, rfl, rfl⟩ (fun h => by cases h) ?_
  refine TE.ok_cons Tryd.underlying57 ⟨Tryd.t57, Tryd.type57, rfl, rfl, rfl⟩ (fun h => by cases h) ?_
  refine TE.ok_cons Tryd.underlying58 ⟨Tryd.t58, Tryd.type58, rfl, rfl, rfl⟩ (fun h => by cases h) ?_
  refine TE.ok_cons Tryd.underlying59 ⟨Tryd.t59, Tryd.type59, rfl, rfl, rfl⟩ (fun h => by cases h) ?_
  refine TE.ok_cons Tryd.underlying60 ⟨Tryd.t60, Tryd.type60, rfl, rfl, rfl⟩ (fun h => by cases h) ?_
  refine TE.ok_cons Tryd.underlying61 ⟨Tryd.t61, Tryd.type61, rfl, rfl, rfl⟩ (fun h => by cases h) ?_
  refine TE.ok_cons Tryd.underlying62 ⟨Tryd.t62, Tryd.type62, rfl, rfl, rfl⟩ (fun h => by cases h) ?_
  refine TE.ok_cons Tryd.underlying63 ⟨Tryd.t63, Tryd.type63, rfl, rfl, rfl⟩ (fun h => by cases h) ?_
  refine TE.ok_cons Tryd.underlying64 ⟨Tryd.t64, Tryd.type64, rfl, rfl, rfl⟩ (fun h => by cases h) ?_
  refine TE.ok_cons Tryd.underlying65 ⟨Tryd.t65, Tryd.type65, rfl, rfl, rfl⟩ (fun h => by cases h) ?_
  refine TE.ok_cons Tryd.underlying66 ⟨Tryd.t66, Tryd.type66, rfl, rfl, rfl⟩ (fun h => by cases h) ?_
  refine TE.ok_cons Tryd.underlying67 ⟨Tryd.t67, Tryd.type67, rfl, rfl, rfl⟩ (fun h => by cases h) ?_
  refine TE.ok_cons Tryd.underlying68 ⟨Tryd.t68, Tryd.type68, rfl, rfl, rfl⟩ (fun h => by cases h) ?_
  refine TE.ok_cons Tryd.underlying69 ⟨Tryd.t69, Tryd.type69, rfl, rfl, rfl⟩ (fun h => by cases h) ?_
  refine TE.ok_cons Tryd.underlying70 ⟨Tryd.t70, Tryd.type70, rfl, rfl, rfl⟩ (fun h => by cases h) ?_
  refine TE.ok_cons Tryd.underlying71 ⟨Tryd.t71, Tryd.type71, rfl, rfl, rfl⟩ (fun h => by cases h) ?_
  refine TE.ok_cons Tryd.underlying72 ⟨Tryd.t72, Tryd.type72, rfl, rfl, rfl⟩ (fun h => by cases h) ?_
  refine TE.ok_cons Tryd.underlying73 ⟨Tryd.t73, Tryd.type73, rfl, rfl, rfl⟩ (fun h => by cases h) ?_
  refine TE.ok_cons Tryd.underlying74 ⟨Tryd.t74, Tryd.type74, rfl, rfl, rfl⟩ (fun h => by cases h) ?_
  refine TE.ok_cons Tryd.underlying75 ⟨Tryd.t75, Tryd.type75, rfl, rfl, rfl⟩ (fun h => by cases h) ?_
  refine TE.ok_cons Tryd.underlying76 ⟨Tryd.t76, Tryd.type76, rfl, rfl, rfl⟩ (fun h => by cases h) ?_
  refine TE.ok_cons Tryd.underlying77 ⟨Tryd.t77, Tryd.type77, rfl, rfl, rfl⟩ (fun h => by cases h) ?_
  refine TE.ok_cons Tryd.underlying78 ⟨Tryd.t78, Tryd.type78, rfl, rfl, rfl⟩ (fun h => by cases h) ?_
  refine TE.ok_cons Tryd.underlying82 ⟨Tryd.t82, Tryd.type82, rfl, rfl, rfl⟩ (fun h => by cases h) ?_
  refine TE.ok_cons Tryd.underlying83 ⟨Tryd.t83, Tryd.type83, rfl, rfl, rfl⟩ (fun h => by cases h) ?_
  refine TE.ok_cons Tryd.underlying84 ⟨Tryd.t84, Tryd.type84, rfl, rfl, rfl⟩ (fun h => by cases h) ?_
  refine TE.ok_cons Tryd.underlying85 ⟨Tryd.t85, Tryd.type85, rfl, rfl, rfl⟩ (fun h => by cases h) ?_
  refine TE.ok_cons Tryd.underlying86 ⟨Tryd.t86, Tryd.type86, rfl, rfl, rfl⟩ (fun h => by cases h) ?_
  refine TE.ok_cons Tryd.underlying87 ⟨Tryd.t87, Tryd.type87, rfl, rfl, rfl⟩ (fun h => by cases h) ?_
  refine TE.ok_cons Tryd.underlying88 ⟨Tryd.t88, Tryd.type88, rfl, rfl, rfl⟩ (fun h => by cases h) ?_
  refine TE.ok_cons Tryd.underlying89 ⟨Tryd.t89, Tryd.type89, rfl, rfl, rfl⟩ (fun h => by cases h) ?_
  refine TE.ok_cons Tryd.underlying90 ⟨Tryd.t90, Tryd.type90, rfl, rfl, rfl⟩ (fun h => by cases h) ?_
  refine TE.ok_cons Tryd.underlying91 ⟨Tryd.t91, Tryd.type91, rfl, rfl, rfl⟩ (fun h => by cases h) ?_
  refine TE.ok_cons Tryd.underlying92 ⟨Tryd.t92, Tryd.type92, rfl, rfl, rfl⟩ (fun h => by cases h) ?_
  refine TE.ok_cons Tryd.underlying93 ⟨Tryd.t93, Tryd.type93, rfl, rfl, rfl⟩ (fun h => by cases h) ?_
  refine TE.ok_cons Tryd.underlying94 ⟨Tryd.t94, Tryd.type94, rfl, rfl, rfl⟩ (fun h => by cases h) ?_
  refine TE.ok_cons Tryd.underlying95 ⟨Tryd.t95, Tryd.type95, rfl, rfl, rfl⟩ (fun h => by cases h) ?_
  refine TE.ok_cons Tryd.underlying96 ⟨Tryd.t96, Tryd.type96, rfl, rfl, rfl⟩ (fun h => by cases h) ?_
  refine TE.ok_cons Tryd.underlying97 ⟨Tryd.t97, Tryd.type97, rfl, rfl, rfl⟩ (fun h => by cases h) ?_
  refine TE.ok_cons Tryd.underlying98 ⟨Tryd.t98, Tryd.type98, rfl, rfl, rfl⟩ (fun h => by cases h) ?_
  refine TE.ok_cons Tryd.underlying99 ⟨Tryd.t99, Tryd.type99, rfl, rfl, rfl⟩ (fun h => by cases h) ?_
  refine TE.ok_cons Tryd.underlying100 ⟨Tryd.t100, Tryd.type100, rfl, rfl, rfl⟩ (fun h => by cases h) ?_
  refine TE.ok_cons Tryd.underlying101 ⟨Tryd.t101, Tryd.type101, rfl, rfl, rfl⟩ (fun h => by cases h) ?_
  refine TE.ok_cons Tryd.underlying102 ⟨Tryd.t102, Tryd.type102, rfl, rfl, rfl⟩ (fun h => by cases h) ?_
  refine TE.ok_cons Tryd.underlying103 ⟨Tryd.t103, Tryd.type103, rfl, rfl, rfl⟩ (fun h => by cases h) ?_
  refine TE.ok_cons Tryd.underlying104 ⟨Tryd.t104, Tryd.type104, rfl, rfl, rfl⟩ (fun h => by cases h) ?_
  refine TE.ok_cons Tryd.underlying105 ⟨Tryd.t105, Tryd.type105, rfl, rfl, rfl⟩ (fun h => by cases h) ?_
  refine TE.ok_cons Tryd.underlying106 ⟨Tryd.t106, Tryd.type106, rfl, rfl, rfl⟩ (fun h => by cases h) ?_
  refine TE.ok_cons Tryd.underlying107 ⟨Tryd.t107, Tryd.type107, rfl, rfl, rfl⟩ (fun h => by cases h) ?_
  refine TE.ok_cons Tryd.underlying108 ⟨Tryd.t108, Tryd.type108, rfl, rfl, rfl⟩ (fun h => by cases h) ?_
  refine TE.ok_cons Tryd.underlying109 ⟨Tryd.t109, Tryd.type109, rfl, rfl, rfl⟩ (fun h => by cases h) ?_
  refine TE.ok_cons Tryd.underlying110 ⟨Tryd.t110, Tryd.type110, rfl, rfl, rfl⟩ (fun h => by cases h) ?_
  refine TE.ok_cons Tryd.underlying112 ⟨Tryd.t112, Tryd.type112, rfl, rfl, rfl⟩ (fun _ => ⟨Tryd.stoodInHeld112, Tryd.eqGuardType112, fun fs h f hf => by cases h; revert f; decide⟩) ?_
  refine TE.ok_cons Tryd.underlying113 ⟨Tryd.t113, Tryd.type113, rfl, rfl, rfl⟩ (fun _ => ⟨Tryd.stoodInHeld113, Tryd.eqGuardType113, fun fs h f hf => by cases h; revert f; decide⟩) ?_
  refine TE.ok_cons Tryd.underlying114 ⟨Tryd.t114, Tryd.type114, rfl, rfl, rfl⟩ (fun h => by cases h) ?_
  refine TE.ok_cons Tryd.underlying115 ⟨Tryd.t115, Tryd.type115, rfl, rfl, rfl⟩ (fun h => by cases h) ?_
  refine TE.ok_cons Tryd.underlying116 ⟨Tryd.t116, Tryd.type116, rfl, rfl, rfl⟩ (fun h => by cases h) ?_
  refine TE.ok_cons Tryd.underlying117 ⟨Tryd.t117, Tryd.type117, rfl, rfl, rfl⟩ (fun h => by cases h) ?_
  refine TE.ok_cons Tryd.underlying118 ⟨Tryd.t118, Tryd.type118, rfl, rfl, rfl⟩ (fun _ => ⟨Tryd.stoodInHeld118, Tryd.eqGuardType118, fun fs h f hf => by cases h; revert f; decide⟩) ?_
  refine TE.ok_cons Tryd.underlying119 ⟨Tryd.t119, Tryd.type119, rfl, rfl, rfl⟩ (fun _ => ⟨Tryd.stoodInHeld119, Tryd.eqGuardType119, fun fs h f hf => by cases h; revert f; decide⟩) ?_
  refine TE.ok_cons Tryd.underlying120 ⟨Tryd.t120, Tryd.type120, rfl, rfl, rfl⟩ (fun h => by cases h) ?_
  refine TE.ok_cons Tryd.underlying121 ⟨Tryd.t121, Tryd.type121, rfl, rfl, rfl⟩ (fun h => by cases h) ?_
  refine TE.ok_cons Tryd.underlying122 ⟨Tryd.t122, Tryd.type122, rfl, rfl, rfl⟩ (fun h => by cases h) ?_
  refine TE.ok_cons Tryd.underlying123 ⟨Tryd.t123, Tryd.type123, rfl, rfl, rfl⟩ (fun h => by cases h) ?_
  refine TE.ok_cons Tryd.underlying124 ⟨Tryd.t124, Tryd.type124, rfl, rfl, rfl⟩ (fun h => by cases h) ?_
  refine TE.ok_cons Tryd.underlying125 ⟨Tryd.t125, Tryd.type125, rfl, rfl, rfl⟩ (fun h => by cases h) ?_
  refine TE.ok_cons Tryd.underlying126 ⟨Tryd.t126, Tryd.type126, rfl, rfl, rfl⟩ (fun h => by cases h) ?_
  refine TE.ok_cons Tryd.underlying127 ⟨Tryd.t127, Tryd.type127, rfl, rfl, rfl⟩ (fun h => by cases h) ?_
  refine TE.ok_cons Tryd.underlying128 ⟨Tryd.t128, Tryd.type128, rfl, rfl, rfl⟩ (fun h => by cases h) ?_
  refine TE.ok_cons Tryd.underlying129 ⟨Tryd.t129, Tryd.type129, rfl, rfl, rfl⟩ (fun h => by cases h) ?_
  refine TE.ok_cons Tryd.underlying130 ⟨Tryd.t130, Tryd.type130, rfl, rfl, rfl⟩ (fun h => by cases h) ?_
  refine TE.ok_cons Tryd.underlying131 ⟨Tryd.t131, Tryd.type131, rfl, rfl, rfl⟩ (fun h => by cases h) ?_
  refine TE.ok_cons Tryd.underlying132 ⟨Tryd.t132, Tryd.type132, rfl, rfl, rfl⟩ (fun h => by cases h) ?_
  refine TE.ok_cons Tryd.underlying133 ⟨Tryd.t133, Tryd.type133, rfl, rfl, rfl⟩ (fun h => by cases h) ?_
  refine TE.ok_cons Tryd.underlying134 ⟨Tryd.t134, Tryd.type134, rfl, rfl, rfl⟩ (fun h => by cases h) ?_
  refine TE.ok_cons Tryd.underlying135 ⟨Tryd.t135, Tryd.type135, rfl, rfl, rfl⟩ (fun h => by cases h) ?_
  refine TE.ok_cons Tryd.underlying136 ⟨Tryd.t136, Tryd.type136, rfl, rfl, rfl⟩ (fun h => by cases h) ?_
  refine TE.ok_cons Tryd.underlying137 ⟨Tryd.t137, Tryd.type137, rfl, rfl, rfl⟩ (fun h => by cases h) ?_
  refine TE.ok_cons Tryd.underlying138 ⟨Tryd.t138, Tryd.type138, rfl, rfl, rfl⟩ (fun h => by cases h) ?_
  refine TE.ok_cons Tryd.underlying139 ⟨Tryd.t139, Tryd.type139, rfl, rfl, rfl⟩ (fun h => by cases h) ?_
  refine TE.ok_cons Tryd.underlying140 ⟨Tryd.t140, Tryd.type140, rfl, rfl, rfl⟩ (fun h => by cases h) ?_
  refine TE.ok_cons Tryd.underlying141 ⟨Tryd.t141, Tryd.type141, rfl, rfl, rfl⟩ (fun h => by cases h) ?_
  refine TE.ok_cons Tryd.underlying142 ⟨Tryd.t142, Tryd.type142, rfl, rfl, rfl⟩ (fun h => by cases h) ?_
  refine TE.ok_cons Tryd.underlying143 ⟨Tryd.t143, Tryd.type143, rfl, rfl, rfl⟩ (fun h => by cases h) ?_
  refine TE.ok_cons Tryd.underlying144 ⟨Tryd.t144, Tryd.type144, rfl, rfl, rfl⟩ (fun h => by cases h) ?_
  refine TE.ok_cons Tryd.underlying145 ⟨Tryd.t145, Tryd.type145, rfl, rfl, rfl⟩ (fun h => by cases h) ?_
  refine TE.ok_cons Tryd.underlying146 ⟨Tryd.t146, Tryd.type146, rfl, rfl, rfl⟩ (fun h => by cases h) ?_
  refine TE.ok_cons Tryd.underlying147 ⟨Tryd.t147, Tryd.type147, rfl, rfl, rfl⟩ (fun h => by cases h) ?_
  refine TE.ok_cons Tryd.underlying148 ⟨Tryd.t148, Tryd.type148, rfl, rfl, rfl⟩ (fun h => by cases h) ?_
  refine TE.ok_cons Tryd.underlying149 ⟨Tryd.t149, Tryd.type149, rfl, rfl, rfl⟩ (fun h => by cases h) ?_
  exact TE.ok_nil

theorem te_one : ∀ t ti, lk te t = some ti → isAggD ti.desc = false → ti.sz = 1 := TE.one_of (by rfl)

end Go.Eng

/- The program's types. -/
namespace Go.Eng
open Go.Proofs

theorem prg {C : Ctx} (hP : C.P = Tryd.prog) : Prg C te := ⟨hP ▸ te_ok, te_one⟩

end Go.Eng

