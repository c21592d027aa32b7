/-
  The table of the types of this seat's translation, and which functions can be entered. Printed by gentab.py.
-/
import Derived.Test.YtfpklhgkndnjjaaDoorChecked
import Derived.Test.YtfpklhgkndnjjaaDoorTy
namespace Go.Proofs.YtfpklhgkndnjjaaDoor
open Go Go.E
set_option maxRecDepth 100000
def rows : List (Nat × TRow) := [
  (1, ⟨TypeDesc.func #[] #[] false, .nilFunc, 1, 8⟩),
  (2, ⟨TypeDesc.int IntKind.i64, .int .i64 0, 1, 8⟩),
  (3, ⟨TypeDesc.int IntKind.i64, .int .i64 0, 1, 8⟩),
  (4, ⟨TypeDesc.bool, .bool false, 1, 1⟩),
  (5, ⟨TypeDesc.int IntKind.u8, .int .u8 0, 1, 1⟩),
  (9, ⟨TypeDesc.string, .string ⟨⟨[]⟩⟩, 1, 16⟩),
  (12, ⟨TypeDesc.int IntKind.u64, .int .u64 0, 1, 8⟩),
  (13, ⟨TypeDesc.struct #[{ name := "msg", type := 9, offset := 0, embedded := false, tag := "", pkgPath := "", byteOffset := 0 }, { name := "addr", type := 12, offset := 1, embedded := false, tag := "", pkgPath := "", byteOffset := 16 }], .agg ⟨[.string ⟨⟨[]⟩⟩, .int .u64 0]⟩, 2, 24⟩),
  (20, ⟨TypeDesc.interface #[], .nilIface, 1, 16⟩),
  (21, ⟨TypeDesc.int IntKind.i32, .int .i32 0, 1, 4⟩),
  (22, ⟨TypeDesc.struct #[{ name := "Sheet", type := 9, offset := 0, embedded := false, tag := "", pkgPath := "", byteOffset := 0 }, { name := "Col", type := 3, offset := 1, embedded := false, tag := "", pkgPath := "", byteOffset := 16 }, { name := "Row", type := 3, offset := 2, embedded := false, tag := "", pkgPath := "", byteOffset := 24 }, { name := "AbsCol", type := 4, offset := 3, embedded := false, tag := "", pkgPath := "", byteOffset := 32 }, { name := "AbsRow", type := 4, offset := 4, embedded := false, tag := "", pkgPath := "", byteOffset := 33 }], .agg ⟨[.string ⟨⟨[]⟩⟩, .int .i64 0, .int .i64 0, .bool false, .bool false]⟩, 5, 40⟩),
  (23, ⟨TypeDesc.struct #[{ name := "Sheet", type := 9, offset := 0, embedded := false, tag := "", pkgPath := "", byteOffset := 0 }, { name := "Col", type := 3, offset := 1, embedded := false, tag := "", pkgPath := "", byteOffset := 16 }, { name := "Row", type := 3, offset := 2, embedded := false, tag := "", pkgPath := "", byteOffset := 24 }, { name := "AbsCol", type := 4, offset := 3, embedded := false, tag := "", pkgPath := "", byteOffset := 32 }, { name := "AbsRow", type := 4, offset := 4, embedded := false, tag := "", pkgPath := "", byteOffset := 33 }], .agg ⟨[.string ⟨⟨[]⟩⟩, .int .i64 0, .int .i64 0, .bool false, .bool false]⟩, 5, 40⟩),
  (24, ⟨TypeDesc.func #[] #[4] false, .nilFunc, 1, 8⟩),
  (26, ⟨TypeDesc.func #[9] #[3, 4] false, .nilFunc, 1, 8⟩),
  (28, ⟨TypeDesc.func #[9] #[23, 4] false, .nilFunc, 1, 8⟩),
  (29, ⟨TypeDesc.func #[9] #[4] false, .nilFunc, 1, 8⟩),
  (30, ⟨TypeDesc.func #[3] #[9] false, .nilFunc, 1, 8⟩),
  (31, ⟨TypeDesc.func #[23] #[4] false, .nilFunc, 1, 8⟩),
  (32, ⟨TypeDesc.func #[23] #[9] false, .nilFunc, 1, 8⟩),
  (33, ⟨TypeDesc.func #[9, 3, 23] #[4] false, .nilFunc, 1, 8⟩),
  (34, ⟨TypeDesc.int IntKind.u16, .int .u16 0, 1, 2⟩),
  (35, ⟨TypeDesc.slice 9, .slice none 0 0, 1, 24⟩),
  (36, ⟨TypeDesc.func #[34, 34, 34, 34, 5, 5] #[4] false, .nilFunc, 1, 8⟩),
  (37, ⟨TypeDesc.func #[34] #[4] false, .nilFunc, 1, 8⟩),
  (38, ⟨TypeDesc.slice 47, .slice none 0 0, 1, 24⟩),
  (39, ⟨TypeDesc.int IntKind.i64, .int .i64 0, 1, 8⟩),
  (41, ⟨TypeDesc.func #[9] #[38, 39] false, .nilFunc, 1, 8⟩),
  (42, ⟨TypeDesc.struct #[{ name := "L", type := 38, offset := 0, embedded := false, tag := "", pkgPath := "", byteOffset := 0 }, { name := "E", type := 3, offset := 1, embedded := false, tag := "", pkgPath := "", byteOffset := 24 }], .agg ⟨[.slice none 0 0, .int .i64 0]⟩, 2, 32⟩),
  (43, ⟨TypeDesc.struct #[{ name := "L", type := 38, offset := 0, embedded := false, tag := "", pkgPath := "", byteOffset := 0 }, { name := "E", type := 3, offset := 1, embedded := false, tag := "", pkgPath := "", byteOffset := 24 }], .agg ⟨[.slice none 0 0, .int .i64 0]⟩, 2, 32⟩),
  (44, ⟨TypeDesc.func #[9] #[43] false, .nilFunc, 1, 8⟩),
  (45, ⟨TypeDesc.func #[39] #[3] false, .nilFunc, 1, 8⟩),
  (46, ⟨TypeDesc.struct #[{ name := "Kind", type := 3, offset := 0, embedded := false, tag := "", pkgPath := "", byteOffset := 0 }, { name := "Text", type := 9, offset := 1, embedded := false, tag := "", pkgPath := "", byteOffset := 8 }, { name := "Num", type := 3, offset := 2, embedded := false, tag := "", pkgPath := "", byteOffset := 24 }, { name := "Ref", type := 23, offset := 3, embedded := false, tag := "", pkgPath := "", byteOffset := 32 }, { name := "At", type := 3, offset := 8, embedded := false, tag := "", pkgPath := "", byteOffset := 72 }], .agg ⟨[.int .i64 0, .string ⟨⟨[]⟩⟩, .int .i64 0, .string ⟨⟨[]⟩⟩, .int .i64 0, .int .i64 0, .bool false, .bool false, .int .i64 0]⟩, 9, 80⟩),
  (47, ⟨TypeDesc.struct #[{ name := "Kind", type := 3, offset := 0, embedded := false, tag := "", pkgPath := "", byteOffset := 0 }, { name := "Text", type := 9, offset := 1, embedded := false, tag := "", pkgPath := "", byteOffset := 8 }, { name := "Num", type := 3, offset := 2, embedded := false, tag := "", pkgPath := "", byteOffset := 24 }, { name := "Ref", type := 23, offset := 3, embedded := false, tag := "", pkgPath := "", byteOffset := 32 }, { name := "At", type := 3, offset := 8, embedded := false, tag := "", pkgPath := "", byteOffset := 72 }], .agg ⟨[.int .i64 0, .string ⟨⟨[]⟩⟩, .int .i64 0, .string ⟨⟨[]⟩⟩, .int .i64 0, .int .i64 0, .bool false, .bool false, .int .i64 0]⟩, 9, 80⟩),
  (48, ⟨TypeDesc.slice 5, .slice none 0 0, 1, 24⟩),
  (49, ⟨TypeDesc.func #[9, 48] #[4] false, .nilFunc, 1, 8⟩),
  (50, ⟨TypeDesc.int IntKind.u64, .int .u64 0, 1, 8⟩),
  (51, ⟨TypeDesc.int IntKind.u64, .int .u64 0, 1, 8⟩),
  (52, ⟨TypeDesc.func #[50, 5, 34] #[4] false, .nilFunc, 1, 8⟩),
  (53, ⟨TypeDesc.slice 59, .slice none 0 0, 1, 24⟩),
  (55, ⟨TypeDesc.func #[9] #[53, 39] false, .nilFunc, 1, 8⟩),
  (56, ⟨TypeDesc.func #[5, 5] #[4] false, .nilFunc, 1, 8⟩),
  (57, ⟨TypeDesc.slice 3, .slice none 0 0, 1, 24⟩),
  (58, ⟨TypeDesc.struct #[{ name := "Kind", type := 3, offset := 0, embedded := false, tag := "", pkgPath := "", byteOffset := 0 }, { name := "Num", type := 3, offset := 1, embedded := false, tag := "", pkgPath := "", byteOffset := 8 }, { name := "Text", type := 9, offset := 2, embedded := false, tag := "", pkgPath := "", byteOffset := 16 }, { name := "Ref", type := 23, offset := 3, embedded := false, tag := "", pkgPath := "", byteOffset := 32 }, { name := "To", type := 23, offset := 8, embedded := false, tag := "", pkgPath := "", byteOffset := 72 }, { name := "Kids", type := 57, offset := 13, embedded := false, tag := "", pkgPath := "", byteOffset := 112 }], .agg ⟨[.int .i64 0, .int .i64 0, .string ⟨⟨[]⟩⟩, .string ⟨⟨[]⟩⟩, .int .i64 0, .int .i64 0, .bool false, .bool false, .string ⟨⟨[]⟩⟩, .int .i64 0, .int .i64 0, .bool false, .bool false, .slice none 0 0]⟩, 14, 136⟩),
  (59, ⟨TypeDesc.struct #[{ name := "Kind", type := 3, offset := 0, embedded := false, tag := "", pkgPath := "", byteOffset := 0 }, { name := "Num", type := 3, offset := 1, embedded := false, tag := "", pkgPath := "", byteOffset := 8 }, { name := "Text", type := 9, offset := 2, embedded := false, tag := "", pkgPath := "", byteOffset := 16 }, { name := "Ref", type := 23, offset := 3, embedded := false, tag := "", pkgPath := "", byteOffset := 32 }, { name := "To", type := 23, offset := 8, embedded := false, tag := "", pkgPath := "", byteOffset := 72 }, { name := "Kids", type := 57, offset := 13, embedded := false, tag := "", pkgPath := "", byteOffset := 112 }], .agg ⟨[.int .i64 0, .int .i64 0, .string ⟨⟨[]⟩⟩, .string ⟨⟨[]⟩⟩, .int .i64 0, .int .i64 0, .bool false, .bool false, .string ⟨⟨[]⟩⟩, .int .i64 0, .int .i64 0, .bool false, .bool false, .slice none 0 0]⟩, 14, 136⟩),
  (60, ⟨TypeDesc.func #[53] #[4] false, .nilFunc, 1, 8⟩),
  (61, ⟨TypeDesc.func #[48] #[4] false, .nilFunc, 1, 8⟩),
  (62, ⟨TypeDesc.func #[5] #[4] false, .nilFunc, 1, 8⟩),
  (63, ⟨TypeDesc.pointer 65, .pointer none, 1, 8⟩),
  (64, ⟨TypeDesc.struct #[{ name := "s", type := 9, offset := 0, embedded := false, tag := "", pkgPath := "", byteOffset := 0 }], .agg ⟨[.string ⟨⟨[]⟩⟩]⟩, 1, 16⟩),
  (65, ⟨TypeDesc.struct #[{ name := "s", type := 9, offset := 0, embedded := false, tag := "", pkgPath := "", byteOffset := 0 }], .agg ⟨[.string ⟨⟨[]⟩⟩]⟩, 1, 16⟩),
  (67, ⟨TypeDesc.func #[9, 9] #[9, 9, 4] false, .nilFunc, 1, 8⟩),
  (68, ⟨TypeDesc.func #[62] #[9] false, .nilFunc, 1, 8⟩),
  (69, ⟨TypeDesc.interface #[("", 144)], .nilIface, 1, 16⟩),
  (70, ⟨TypeDesc.interface #[("", 144)], .nilIface, 1, 16⟩),
  (72, ⟨TypeDesc.func #[9] #[3, 70] false, .nilFunc, 1, 8⟩),
  (73, ⟨TypeDesc.func #[4] #[9] false, .nilFunc, 1, 8⟩),
  (74, ⟨TypeDesc.pointer 76, .pointer none, 1, 8⟩),
  (75, ⟨TypeDesc.struct #[{ name := "s", type := 9, offset := 0, embedded := false, tag := "", pkgPath := "", byteOffset := 0 }, { name := "at", type := 3, offset := 1, embedded := false, tag := "", pkgPath := "", byteOffset := 16 }], .agg ⟨[.string ⟨⟨[]⟩⟩, .int .i64 0]⟩, 2, 24⟩),
  (76, ⟨TypeDesc.struct #[{ name := "s", type := 9, offset := 0, embedded := false, tag := "", pkgPath := "", byteOffset := 0 }, { name := "at", type := 3, offset := 1, embedded := false, tag := "", pkgPath := "", byteOffset := 16 }], .agg ⟨[.string ⟨⟨[]⟩⟩, .int .i64 0]⟩, 2, 24⟩),
  (78, ⟨TypeDesc.func #[74] #[47, 4] false, .nilFunc, 1, 8⟩),
  (79, ⟨TypeDesc.func #[5] #[78] false, .nilFunc, 1, 8⟩),
  (81, ⟨TypeDesc.func #[9, 3] #[47, 3] false, .nilFunc, 1, 8⟩),
  (82, ⟨TypeDesc.int IntKind.i64, .int .i64 0, 1, 8⟩),
  (84, ⟨TypeDesc.pointer 86, .pointer none, 1, 8⟩),
  (85, ⟨TypeDesc.struct #[{ name := "l", type := 38, offset := 0, embedded := false, tag := "", pkgPath := "", byteOffset := 0 }, { name := "at", type := 3, offset := 1, embedded := false, tag := "", pkgPath := "", byteOffset := 24 }, { name := "out", type := 53, offset := 2, embedded := false, tag := "", pkgPath := "", byteOffset := 32 }, { name := "deep", type := 3, offset := 3, embedded := false, tag := "", pkgPath := "", byteOffset := 56 }], .agg ⟨[.slice none 0 0, .int .i64 0, .slice none 0 0, .int .i64 0]⟩, 4, 64⟩),
  (86, ⟨TypeDesc.struct #[{ name := "l", type := 38, offset := 0, embedded := false, tag := "", pkgPath := "", byteOffset := 0 }, { name := "at", type := 3, offset := 1, embedded := false, tag := "", pkgPath := "", byteOffset := 24 }, { name := "out", type := 53, offset := 2, embedded := false, tag := "", pkgPath := "", byteOffset := 32 }, { name := "deep", type := 3, offset := 3, embedded := false, tag := "", pkgPath := "", byteOffset := 56 }], .agg ⟨[.slice none 0 0, .int .i64 0, .slice none 0 0, .int .i64 0]⟩, 4, 64⟩),
  (87, ⟨TypeDesc.func #[] #[3] false, .nilFunc, 1, 8⟩),
  (88, ⟨TypeDesc.func #[] #[47] false, .nilFunc, 1, 8⟩),
  (89, ⟨TypeDesc.func #[39] #[] false, .nilFunc, 1, 8⟩),
  (90, ⟨TypeDesc.func #[3] #[3] false, .nilFunc, 1, 8⟩),
  (91, ⟨TypeDesc.func #[57, 57] #[4] false, .nilFunc, 1, 8⟩),
  (92, ⟨TypeDesc.func #[59] #[4] false, .nilFunc, 1, 8⟩),
  (94, ⟨TypeDesc.func #[9, 9] #[9, 4] false, .nilFunc, 1, 8⟩),
  (95, ⟨TypeDesc.func #[9, 9, 3, 3, 70] #[70] false, .nilFunc, 1, 8⟩),
  (96, ⟨TypeDesc.func #[] #[47, 4] false, .nilFunc, 1, 8⟩),
  (97, ⟨TypeDesc.func #[9, 3] #[9] false, .nilFunc, 1, 8⟩),
  (98, ⟨TypeDesc.func #[100] #[3] false, .nilFunc, 1, 8⟩),
  (99, ⟨TypeDesc.struct #[{ name := "below", type := 87, offset := 0, embedded := false, tag := "", pkgPath := "", byteOffset := 0 }, { name := "signs", type := 35, offset := 1, embedded := false, tag := "", pkgPath := "", byteOffset := 8 }, { name := "kinds", type := 57, offset := 2, embedded := false, tag := "", pkgPath := "", byteOffset := 32 }], .agg ⟨[.nilFunc, .slice none 0 0, .slice none 0 0]⟩, 3, 56⟩),
  (100, ⟨TypeDesc.struct #[{ name := "below", type := 87, offset := 0, embedded := false, tag := "", pkgPath := "", byteOffset := 0 }, { name := "signs", type := 35, offset := 1, embedded := false, tag := "", pkgPath := "", byteOffset := 8 }, { name := "kinds", type := 57, offset := 2, embedded := false, tag := "", pkgPath := "", byteOffset := 32 }], .agg ⟨[.nilFunc, .slice none 0 0, .slice none 0 0]⟩, 3, 56⟩),
  (101, ⟨TypeDesc.func #[23, 23] #[4] false, .nilFunc, 1, 8⟩),
  (102, ⟨TypeDesc.func #[9, 9] #[3] false, .nilFunc, 1, 8⟩),
  (103, ⟨TypeDesc.int IntKind.i64, .int .i64 0, 1, 8⟩),
  (105, ⟨TypeDesc.func #[9, 3, 3] #[2, 70] false, .nilFunc, 1, 8⟩),
  (106, ⟨TypeDesc.pointer 118, .pointer none, 1, 8⟩),
  (107, ⟨TypeDesc.func #[9, 9] #[106] false, .nilFunc, 1, 8⟩),
  (108, ⟨TypeDesc.func #[9, 9, 3] #[106] false, .nilFunc, 1, 8⟩),
  (109, ⟨TypeDesc.func #[2, 3] #[9] false, .nilFunc, 1, 8⟩),
  (110, ⟨TypeDesc.func #[9, 9] #[4] false, .nilFunc, 1, 8⟩),
  (111, ⟨TypeDesc.func #[35, 9] #[3] false, .nilFunc, 1, 8⟩),
  (112, ⟨TypeDesc.func #[59] #[3] false, .nilFunc, 1, 8⟩),
  (113, ⟨TypeDesc.func #[9, 5] #[3] false, .nilFunc, 1, 8⟩),
  (115, ⟨TypeDesc.func #[9, 3, 3] #[50, 70] false, .nilFunc, 1, 8⟩),
  (116, ⟨TypeDesc.func #[9] #[9] false, .nilFunc, 1, 8⟩),
  (117, ⟨TypeDesc.struct #[{ name := "Func", type := 9, offset := 0, embedded := false, tag := "", pkgPath := "", byteOffset := 0 }, { name := "Num", type := 9, offset := 1, embedded := false, tag := "", pkgPath := "", byteOffset := 16 }, { name := "Err", type := 70, offset := 2, embedded := false, tag := "", pkgPath := "", byteOffset := 32 }], .agg ⟨[.string ⟨⟨[]⟩⟩, .string ⟨⟨[]⟩⟩, .nilIface]⟩, 3, 48⟩),
  (118, ⟨TypeDesc.struct #[{ name := "Func", type := 9, offset := 0, embedded := false, tag := "", pkgPath := "", byteOffset := 0 }, { name := "Num", type := 9, offset := 1, embedded := false, tag := "", pkgPath := "", byteOffset := 16 }, { name := "Err", type := 70, offset := 2, embedded := false, tag := "", pkgPath := "", byteOffset := 32 }], .agg ⟨[.string ⟨⟨[]⟩⟩, .string ⟨⟨[]⟩⟩, .nilIface]⟩, 3, 48⟩),
  (119, ⟨TypeDesc.func #[9] #[70] false, .nilFunc, 1, 8⟩),
  (120, ⟨TypeDesc.array 24 5, .agg ⟨[.int .u8 0, .int .u8 0, .int .u8 0, .int .u8 0, .int .u8 0, .int .u8 0, .int .u8 0, .int .u8 0, .int .u8 0, .int .u8 0, .int .u8 0, .int .u8 0, .int .u8 0, .int .u8 0, .int .u8 0, .int .u8 0, .int .u8 0, .int .u8 0, .int .u8 0, .int .u8 0, .int .u8 0, .int .u8 0, .int .u8 0, .int .u8 0]⟩, 24, 24⟩),
  (121, ⟨TypeDesc.func #[50] #[3] false, .nilFunc, 1, 8⟩),
  (122, ⟨TypeDesc.func #[48, 50] #[] false, .nilFunc, 1, 8⟩),
  (124, ⟨TypeDesc.func #[48, 50, 3, 4, 4] #[48, 9] false, .nilFunc, 1, 8⟩),
  (125, ⟨TypeDesc.int IntKind.u32, .int .u32 0, 1, 4⟩),
  (127, ⟨TypeDesc.func #[9] #[125, 125] false, .nilFunc, 1, 8⟩),
  (128, ⟨TypeDesc.func #[5] #[5] false, .nilFunc, 1, 8⟩),
  (129, ⟨TypeDesc.pointer 5, .pointer none, 1, 8⟩),
  (130, ⟨TypeDesc.pointer 132, .pointer none, 1, 8⟩),
  (131, ⟨TypeDesc.struct #[{ name := "s", type := 9, offset := 0, embedded := false, tag := "", pkgPath := "", byteOffset := 0 }], .agg ⟨[.string ⟨⟨[]⟩⟩]⟩, 1, 16⟩),
  (132, ⟨TypeDesc.struct #[{ name := "s", type := 9, offset := 0, embedded := false, tag := "", pkgPath := "", byteOffset := 0 }], .agg ⟨[.string ⟨⟨[]⟩⟩]⟩, 1, 16⟩),
  (133, ⟨TypeDesc.func #[4] #[3] false, .nilFunc, 1, 8⟩),
  (134, ⟨TypeDesc.array 20 50, .agg ⟨[.int .u64 0, .int .u64 0, .int .u64 0, .int .u64 0, .int .u64 0, .int .u64 0, .int .u64 0, .int .u64 0, .int .u64 0, .int .u64 0, .int .u64 0, .int .u64 0, .int .u64 0, .int .u64 0, .int .u64 0, .int .u64 0, .int .u64 0, .int .u64 0, .int .u64 0, .int .u64 0]⟩, 20, 160⟩),
  (135, ⟨TypeDesc.array 65 5, .agg ⟨[.int .u8 0, .int .u8 0, .int .u8 0, .int .u8 0, .int .u8 0, .int .u8 0, .int .u8 0, .int .u8 0, .int .u8 0, .int .u8 0, .int .u8 0, .int .u8 0, .int .u8 0, .int .u8 0, .int .u8 0, .int .u8 0, .int .u8 0, .int .u8 0, .int .u8 0, .int .u8 0, .int .u8 0, .int .u8 0, .int .u8 0, .int .u8 0, .int .u8 0, .int .u8 0, .int .u8 0, .int .u8 0, .int .u8 0, .int .u8 0, .int .u8 0, .int .u8 0, .int .u8 0, .int .u8 0, .int .u8 0, .int .u8 0, .int .u8 0, .int .u8 0, .int .u8 0, .int .u8 0, .int .u8 0, .int .u8 0, .int .u8 0, .int .u8 0, .int .u8 0, .int .u8 0, .int .u8 0, .int .u8 0, .int .u8 0, .int .u8 0, .int .u8 0, .int .u8 0, .int .u8 0, .int .u8 0, .int .u8 0, .int .u8 0, .int .u8 0, .int .u8 0, .int .u8 0, .int .u8 0, .int .u8 0, .int .u8 0, .int .u8 0, .int .u8 0, .int .u8 0]⟩, 65, 65⟩),
  (136, ⟨TypeDesc.func #[3] #[4] false, .nilFunc, 1, 8⟩),
  (137, ⟨TypeDesc.func #[51] #[3] false, .nilFunc, 1, 8⟩),
  (138, ⟨TypeDesc.func #[125] #[3] false, .nilFunc, 1, 8⟩),
  (139, ⟨TypeDesc.func #[9] #[] false, .nilFunc, 1, 8⟩),
  (140, ⟨TypeDesc.array 32 5, .agg ⟨[.int .u8 0, .int .u8 0, .int .u8 0, .int .u8 0, .int .u8 0, .int .u8 0, .int .u8 0, .int .u8 0, .int .u8 0, .int .u8 0, .int .u8 0, .int .u8 0, .int .u8 0, .int .u8 0, .int .u8 0, .int .u8 0, .int .u8 0, .int .u8 0, .int .u8 0, .int .u8 0, .int .u8 0, .int .u8 0, .int .u8 0, .int .u8 0, .int .u8 0, .int .u8 0, .int .u8 0, .int .u8 0, .int .u8 0, .int .u8 0, .int .u8 0, .int .u8 0]⟩, 32, 32⟩),
  (141, ⟨TypeDesc.array 64 5, .agg ⟨[.int .u8 0, .int .u8 0, .int .u8 0, .int .u8 0, .int .u8 0, .int .u8 0, .int .u8 0, .int .u8 0, .int .u8 0, .int .u8 0, .int .u8 0, .int .u8 0, .int .u8 0, .int .u8 0, .int .u8 0, .int .u8 0, .int .u8 0, .int .u8 0, .int .u8 0, .int .u8 0, .int .u8 0, .int .u8 0, .int .u8 0, .int .u8 0, .int .u8 0, .int .u8 0, .int .u8 0, .int .u8 0, .int .u8 0, .int .u8 0, .int .u8 0, .int .u8 0, .int .u8 0, .int .u8 0, .int .u8 0, .int .u8 0, .int .u8 0, .int .u8 0, .int .u8 0, .int .u8 0, .int .u8 0, .int .u8 0, .int .u8 0, .int .u8 0, .int .u8 0, .int .u8 0, .int .u8 0, .int .u8 0, .int .u8 0, .int .u8 0, .int .u8 0, .int .u8 0, .int .u8 0, .int .u8 0, .int .u8 0, .int .u8 0, .int .u8 0, .int .u8 0, .int .u8 0, .int .u8 0, .int .u8 0, .int .u8 0, .int .u8 0, .int .u8 0]⟩, 64, 64⟩),
  (142, ⟨TypeDesc.func #[23] #[3] false, .nilFunc, 1, 8⟩),
  (143, ⟨TypeDesc.func #[9] #[3] false, .nilFunc, 1, 8⟩),
  (144, ⟨TypeDesc.func #[] #[9] false, .nilFunc, 1, 8⟩)]
theorem ty1 : TyOk Tryd.prog 1 ⟨TypeDesc.func #[] #[] false, .nilFunc, 1, 8⟩ := TyOk.mk' Tryd.underlying1 (by kernel_rfl) (by kernel_rfl)
theorem ty2 : TyOk Tryd.prog 2 ⟨TypeDesc.int IntKind.i64, .int .i64 0, 1, 8⟩ := TyOk.mk' Tryd.underlying2 (by kernel_rfl) (by kernel_rfl)
theorem ty3 : TyOk Tryd.prog 3 ⟨TypeDesc.int IntKind.i64, .int .i64 0, 1, 8⟩ := TyOk.mk' Tryd.underlying3 (by kernel_rfl) (by kernel_rfl)
theorem ty4 : TyOk Tryd.prog 4 ⟨TypeDesc.bool, .bool false, 1, 1⟩ := TyOk.mk' Tryd.underlying4 (by kernel_rfl) (by kernel_rfl)
theorem ty5 : TyOk Tryd.prog 5 ⟨TypeDesc.int IntKind.u8, .int .u8 0, 1, 1⟩ := TyOk.mk' Tryd.underlying5 (by kernel_rfl) (by kernel_rfl)
theorem ty9 : TyOk Tryd.prog 9 ⟨TypeDesc.string, .string ⟨⟨[]⟩⟩, 1, 16⟩ := TyOk.mk' Tryd.underlying9 (by kernel_rfl) (by kernel_rfl)
theorem ty12 : TyOk Tryd.prog 12 ⟨TypeDesc.int IntKind.u64, .int .u64 0, 1, 8⟩ := TyOk.mk' Tryd.underlying12 (by kernel_rfl) (by kernel_rfl)
theorem ty13 : TyOk Tryd.prog 13 ⟨TypeDesc.struct #[{ name := "msg", type := 9, offset := 0, embedded := false, tag := "", pkgPath := "", byteOffset := 0 }, { name := "addr", type := 12, offset := 1, embedded := false, tag := "", pkgPath := "", byteOffset := 16 }], .agg ⟨[.string ⟨⟨[]⟩⟩, .int .u64 0]⟩, 2, 24⟩ := TyOk.mk' Tryd.underlying13 (by kernel_rfl) (by kernel_rfl)
theorem ty20 : TyOk Tryd.prog 20 ⟨TypeDesc.interface #[], .nilIface, 1, 16⟩ := TyOk.mk' Tryd.underlying20 (by kernel_rfl) (by kernel_rfl)
theorem ty21 : TyOk Tryd.prog 21 ⟨TypeDesc.int IntKind.i32, .int .i32 0, 1, 4⟩ := TyOk.mk' Tryd.underlying21 (by kernel_rfl) (by kernel_rfl)
theorem ty22 : TyOk Tryd.prog 22 ⟨TypeDesc.struct #[{ name := "Sheet", type := 9, offset := 0, embedded := false, tag := "", pkgPath := "", byteOffset := 0 }, { name := "Col", type := 3, offset := 1, embedded := false, tag := "", pkgPath := "", byteOffset := 16 }, { name := "Row", type := 3, offset := 2, embedded := false, tag := "", pkgPath := "", byteOffset := 24 }, { name := "AbsCol", type := 4, offset := 3, embedded := false, tag := "", pkgPath := "", byteOffset := 32 }, { name := "AbsRow", type := 4, offset := 4, embedded := false, tag := "", pkgPath := "", byteOffset := 33 }], .agg ⟨[.string ⟨⟨[]⟩⟩, .int .i64 0, .int .i64 0, .bool false, .bool false]⟩, 5, 40⟩ := TyOk.mk' Tryd.underlying22 (by kernel_rfl) (by kernel_rfl)
theorem ty23 : TyOk Tryd.prog 23 ⟨TypeDesc.struct #[{ name := "Sheet", type := 9, offset := 0, embedded := false, tag := "", pkgPath := "", byteOffset := 0 }, { name := "Col", type := 3, offset := 1, embedded := false, tag := "", pkgPath := "", byteOffset := 16 }, { name := "Row", type := 3, offset := 2, embedded := false, tag := "", pkgPath := "", byteOffset := 24 }, { name := "AbsCol", type := 4, offset := 3, embedded := false, tag := "", pkgPath := "", byteOffset := 32 }, { name := "AbsRow", type := 4, offset := 4, embedded := false, tag := "", pkgPath := "", byteOffset := 33 }], .agg ⟨[.string ⟨⟨[]⟩⟩, .int .i64 0, .int .i64 0, .bool false, .bool false]⟩, 5, 40⟩ := TyOk.mk' Tryd.underlying23 (by kernel_rfl) (by kernel_rfl)
theorem ty24 : TyOk Tryd.prog 24 ⟨TypeDesc.func #[] #[4] false, .nilFunc, 1, 8⟩ := TyOk.mk' Tryd.underlying24 (by kernel_rfl) (by kernel_rfl)
theorem ty26 : TyOk Tryd.prog 26 ⟨TypeDesc.func #[9] #[3, 4] false, .nilFunc, 1, 8⟩ := TyOk.mk' Tryd.underlying26 (by kernel_rfl) (by kernel_rfl)
theorem ty28 : TyOk Tryd.prog 28 ⟨TypeDesc.func #[9] #[23, 4] false, .nilFunc, 1, 8⟩ := TyOk.mk' Tryd.underlying28 (by kernel_rfl) (by kernel_rfl)
theorem ty29 : TyOk Tryd.prog 29 ⟨TypeDesc.func #[9] #[4] false, .nilFunc, 1, 8⟩ := TyOk.mk' Tryd.underlying29 (by kernel_rfl) (by kernel_rfl)
theorem ty30 : TyOk Tryd.prog 30 ⟨TypeDesc.func #[3] #[9] false, .nilFunc, 1, 8⟩ := TyOk.mk' Tryd.underlying30 (by kernel_rfl) (by kernel_rfl)
theorem ty31 : TyOk Tryd.prog 31 ⟨TypeDesc.func #[23] #[4] false, .nilFunc, 1, 8⟩ := TyOk.mk' Tryd.underlying31 (by kernel_rfl) (by kernel_rfl)
theorem ty32 : TyOk Tryd.prog 32 ⟨TypeDesc.func #[23] #[9] false, .nilFunc, 1, 8⟩ := TyOk.mk' Tryd.underlying32 (by kernel_rfl) (by kernel_rfl)
theorem ty33 : TyOk Tryd.prog 33 ⟨TypeDesc.func #[9, 3, 23] #[4] false, .nilFunc, 1, 8⟩ := TyOk.mk' Tryd.underlying33 (by kernel_rfl) (by kernel_rfl)
theorem ty34 : TyOk Tryd.prog 34 ⟨TypeDesc.int IntKind.u16, .int .u16 0, 1, 2⟩ := TyOk.mk' Tryd.underlying34 (by kernel_rfl) (by kernel_rfl)
theorem ty35 : TyOk Tryd.prog 35 ⟨TypeDesc.slice 9, .slice none 0 0, 1, 24⟩ := TyOk.mk' Tryd.underlying35 (by kernel_rfl) (by kernel_rfl)
theorem ty36 : TyOk Tryd.prog 36 ⟨TypeDesc.func #[34, 34, 34, 34, 5, 5] #[4] false, .nilFunc, 1, 8⟩ := TyOk.mk' Tryd.underlying36 (by kernel_rfl) (by kernel_rfl)
theorem ty37 : TyOk Tryd.prog 37 ⟨TypeDesc.func #[34] #[4] false, .nilFunc, 1, 8⟩ := TyOk.mk' Tryd.underlying37 (by kernel_rfl) (by kernel_rfl)
theorem ty38 : TyOk Tryd.prog 38 ⟨TypeDesc.slice 47, .slice none 0 0, 1, 24⟩ := TyOk.mk' Tryd.underlying38 (by kernel_rfl) (by kernel_rfl)
theorem ty39 : TyOk Tryd.prog 39 ⟨TypeDesc.int IntKind.i64, .int .i64 0, 1, 8⟩ := TyOk.mk' Tryd.underlying39 (by kernel_rfl) (by kernel_rfl)
theorem ty41 : TyOk Tryd.prog 41 ⟨TypeDesc.func #[9] #[38, 39] false, .nilFunc, 1, 8⟩ := TyOk.mk' Tryd.underlying41 (by kernel_rfl) (by kernel_rfl)
theorem ty42 : TyOk Tryd.prog 42 ⟨TypeDesc.struct #[{ name := "L", type := 38, offset := 0, embedded := false, tag := "", pkgPath := "", byteOffset := 0 }, { name := "E", type := 3, offset := 1, embedded := false, tag := "", pkgPath := "", byteOffset := 24 }], .agg ⟨[.slice none 0 0, .int .i64 0]⟩, 2, 32⟩ := TyOk.mk' Tryd.underlying42 (by kernel_rfl) (by kernel_rfl)
theorem ty43 : TyOk Tryd.prog 43 ⟨TypeDesc.struct #[{ name := "L", type := 38, offset := 0, embedded := false, tag := "", pkgPath := "", byteOffset := 0 }, { name := "E", type := 3, offset := 1, embedded := false, tag := "", pkgPath := "", byteOffset := 24 }], .agg ⟨[.slice none 0 0, .int .i64 0]⟩, 2, 32⟩ := TyOk.mk' Tryd.underlying43 (by kernel_rfl) (by kernel_rfl)
theorem ty44 : TyOk Tryd.prog 44 ⟨TypeDesc.func #[9] #[43] false, .nilFunc, 1, 8⟩ := TyOk.mk' Tryd.underlying44 (by kernel_rfl) (by kernel_rfl)
theorem ty45 : TyOk Tryd.prog 45 ⟨TypeDesc.func #[39] #[3] false, .nilFunc, 1, 8⟩ := TyOk.mk' Tryd.underlying45 (by kernel_rfl) (by kernel_rfl)
theorem ty46 : TyOk Tryd.prog 46 ⟨TypeDesc.struct #[{ name := "Kind", type := 3, offset := 0, embedded := false, tag := "", pkgPath := "", byteOffset := 0 }, { name := "Text", type := 9, offset := 1, embedded := false, tag := "", pkgPath := "", byteOffset := 8 }, { name := "Num", type := 3, offset := 2, embedded := false, tag := "", pkgPath := "", byteOffset := 24 }, { name := "Ref", type := 23, offset := 3, embedded := false, tag := "", pkgPath := "", byteOffset := 32 }, { name := "At", type := 3, offset := 8, embedded := false, tag := "", pkgPath := "", byteOffset := 72 }], .agg ⟨[.int .i64 0, .string ⟨⟨[]⟩⟩, .int .i64 0, .string ⟨⟨[]⟩⟩, .int .i64 0, .int .i64 0, .bool false, .bool false, .int .i64 0]⟩, 9, 80⟩ := TyOk.mk' Tryd.underlying46 (by kernel_rfl) (by kernel_rfl)
theorem ty47 : TyOk Tryd.prog 47 ⟨TypeDesc.struct #[{ name := "Kind", type := 3, offset := 0, embedded := false, tag := "", pkgPath := "", byteOffset := 0 }, { name := "Text", type := 9, offset := 1, embedded := false, tag := "", pkgPath := "", byteOffset := 8 }, { name := "Num", type := 3, offset := 2, embedded := false, tag := "", pkgPath := "", byteOffset := 24 }, { name := "Ref", type := 23, offset := 3, embedded := false, tag := "", pkgPath := "", byteOffset := 32 }, { name := "At", type := 3, offset := 8, embedded := false, tag := "", pkgPath := "", byteOffset := 72 }], .agg ⟨[.int .i64 0, .string ⟨⟨[]⟩⟩, .int .i64 0, .string ⟨⟨[]⟩⟩, .int .i64 0, .int .i64 0, .bool false, .bool false, .int .i64 0]⟩, 9, 80⟩ := TyOk.mk' Tryd.underlying47 (by kernel_rfl) (by kernel_rfl)
theorem ty48 : TyOk Tryd.prog 48 ⟨TypeDesc.slice 5, .slice none 0 0, 1, 24⟩ := TyOk.mk' Tryd.underlying48 (by kernel_rfl) (by kernel_rfl)
theorem ty49 : TyOk Tryd.prog 49 ⟨TypeDesc.func #[9, 48] #[4] false, .nilFunc, 1, 8⟩ := TyOk.mk' Tryd.underlying49 (by kernel_rfl) (by kernel_rfl)
theorem ty50 : TyOk Tryd.prog 50 ⟨TypeDesc.int IntKind.u64, .int .u64 0, 1, 8⟩ := TyOk.mk' Tryd.underlying50 (by kernel_rfl) (by kernel_rfl)
theorem ty51 : TyOk Tryd.prog 51 ⟨TypeDesc.int IntKind.u64, .int .u64 0, 1, 8⟩ := TyOk.mk' Tryd.underlying51 (by kernel_rfl) (by kernel_rfl)
theorem ty52 : TyOk Tryd.prog 52 ⟨TypeDesc.func #[50, 5, 34] #[4] false, .nilFunc, 1, 8⟩ := TyOk.mk' Tryd.underlying52 (by kernel_rfl) (by kernel_rfl)
theorem ty53 : TyOk Tryd.prog 53 ⟨TypeDesc.slice 59, .slice none 0 0, 1, 24⟩ := TyOk.mk' Tryd.underlying53 (by kernel_rfl) (by kernel_rfl)
theorem ty55 : TyOk Tryd.prog 55 ⟨TypeDesc.func #[9] #[53, 39] false, .nilFunc, 1, 8⟩ := TyOk.mk' Tryd.underlying55 (by kernel_rfl) (by kernel_rfl)
theorem ty56 : TyOk Tryd.prog 56 ⟨TypeDesc.func #[5, 5] #[4] false, .nilFunc, 1, 8⟩ := TyOk.mk' Tryd.underlying56 (by kernel_rfl) (by kernel_rfl)
theorem ty57 : TyOk Tryd.prog 57 ⟨TypeDesc.slice 3, .slice none 0 0, 1, 24⟩ := TyOk.mk' Tryd.underlying57 (by kernel_rfl) (by kernel_rfl)
theorem ty58 : TyOk Tryd.prog 58 ⟨TypeDesc.struct #[{ name := "Kind", type := 3, offset := 0, embedded := false, tag := "", pkgPath := "", byteOffset := 0 }, { name := "Num", type := 3, offset := 1, embedded := false, tag := "", pkgPath := "", byteOffset := 8 }, { name := "Text", type := 9, offset := 2, embedded := false, tag := "", pkgPath := "", byteOffset := 16 }, { name := "Ref", type := 23, offset := 3, embedded := false, tag := "", pkgPath := "", byteOffset := 32 }, { name := "To", type := 23, offset := 8, embedded := false, tag := "", pkgPath := "", byteOffset := 72 }, { name := "Kids", type := 57, offset := 13, embedded := false, tag := "", pkgPath := "", byteOffset := 112 }], .agg ⟨[.int .i64 0, .int .i64 0, .string ⟨⟨[]⟩⟩, .string ⟨⟨[]⟩⟩, .int .i64 0, .int .i64 0, .bool false, .bool false, .string ⟨⟨[]⟩⟩, .int .i64 0, .int .i64 0, .bool false, .bool false, .slice none 0 0]⟩, 14, 136⟩ := TyOk.mk' Tryd.underlying58 (by kernel_rfl) (by kernel_rfl)
theorem ty59 : TyOk Tryd.prog 59 ⟨TypeDesc.struct #[{ name := "Kind", type := 3, offset := 0, embedded := false, tag := "", pkgPath := "", byteOffset := 0 }, { name := "Num", type := 3, offset := 1, embedded := false, tag := "", pkgPath := "", byteOffset := 8 }, { name := "Text", type := 9, offset := 2, embedded := false, tag := "", pkgPath := "", byteOffset := 16 }, { name := "Ref", type := 23, offset := 3, embedded := false, tag := "", pkgPath := "", byteOffset := 32 }, { name := "To", type := 23, offset := 8, embedded := false, tag := "", pkgPath := "", byteOffset := 72 }, { name := "Kids", type := 57, offset := 13, embedded := false, tag := "", pkgPath := "", byteOffset := 112 }], .agg ⟨[.int .i64 0, .int .i64 0, .string ⟨⟨[]⟩⟩, .string ⟨⟨[]⟩⟩, .int .i64 0, .int .i64 0, .bool false, .bool false, .string ⟨⟨[]⟩⟩, .int .i64 0, .int .i64 0, .bool false, .bool false, .slice none 0 0]⟩, 14, 136⟩ := TyOk.mk' Tryd.underlying59 (by kernel_rfl) (by kernel_rfl)
theorem ty60 : TyOk Tryd.prog 60 ⟨TypeDesc.func #[53] #[4] false, .nilFunc, 1, 8⟩ := TyOk.mk' Tryd.underlying60 (by kernel_rfl) (by kernel_rfl)
theorem ty61 : TyOk Tryd.prog 61 ⟨TypeDesc.func #[48] #[4] false, .nilFunc, 1, 8⟩ := TyOk.mk' Tryd.underlying61 (by kernel_rfl) (by kernel_rfl)
theorem ty62 : TyOk Tryd.prog 62 ⟨TypeDesc.func #[5] #[4] false, .nilFunc, 1, 8⟩ := TyOk.mk' Tryd.underlying62 (by kernel_rfl) (by kernel_rfl)
theorem ty63 : TyOk Tryd.prog 63 ⟨TypeDesc.pointer 65, .pointer none, 1, 8⟩ := TyOk.mk' Tryd.underlying63 (by kernel_rfl) (by kernel_rfl)
theorem ty64 : TyOk Tryd.prog 64 ⟨TypeDesc.struct #[{ name := "s", type := 9, offset := 0, embedded := false, tag := "", pkgPath := "", byteOffset := 0 }], .agg ⟨[.string ⟨⟨[]⟩⟩]⟩, 1, 16⟩ := TyOk.mk' Tryd.underlying64 (by kernel_rfl) (by kernel_rfl)
theorem ty65 : TyOk Tryd.prog 65 ⟨TypeDesc.struct #[{ name := "s", type := 9, offset := 0, embedded := false, tag := "", pkgPath := "", byteOffset := 0 }], .agg ⟨[.string ⟨⟨[]⟩⟩]⟩, 1, 16⟩ := TyOk.mk' Tryd.underlying65 (by kernel_rfl) (by kernel_rfl)
theorem ty67 : TyOk Tryd.prog 67 ⟨TypeDesc.func #[9, 9] #[9, 9, 4] false, .nilFunc, 1, 8⟩ := TyOk.mk' Tryd.underlying67 (by kernel_rfl) (by kernel_rfl)
theorem ty68 : TyOk Tryd.prog 68 ⟨TypeDesc.func #[62] #[9] false, .nilFunc, 1, 8⟩ := TyOk.mk' Tryd.underlying68 (by kernel_rfl) (by kernel_rfl)
theorem ty69 : TyOk Tryd.prog 69 ⟨TypeDesc.interface #[("", 144)], .nilIface, 1, 16⟩ := TyOk.mk' Tryd.underlying69 (by kernel_rfl) (by kernel_rfl)
theorem ty70 : TyOk Tryd.prog 70 ⟨TypeDesc.interface #[("", 144)], .nilIface, 1, 16⟩ := TyOk.mk' Tryd.underlying70 (by kernel_rfl) (by kernel_rfl)
theorem ty72 : TyOk Tryd.prog 72 ⟨TypeDesc.func #[9] #[3, 70] false, .nilFunc, 1, 8⟩ := TyOk.mk' Tryd.underlying72 (by kernel_rfl) (by kernel_rfl)
theorem ty73 : TyOk Tryd.prog 73 ⟨TypeDesc.func #[4] #[9] false, .nilFunc, 1, 8⟩ := TyOk.mk' Tryd.underlying73 (by kernel_rfl) (by kernel_rfl)
theorem ty74 : TyOk Tryd.prog 74 ⟨TypeDesc.pointer 76, .pointer none, 1, 8⟩ := TyOk.mk' Tryd.underlying74 (by kernel_rfl) (by kernel_rfl)
theorem ty75 : TyOk Tryd.prog 75 ⟨TypeDesc.struct #[{ name := "s", type := 9, offset := 0, embedded := false, tag := "", pkgPath := "", byteOffset := 0 }, { name := "at", type := 3, offset := 1, embedded := false, tag := "", pkgPath := "", byteOffset := 16 }], .agg ⟨[.string ⟨⟨[]⟩⟩, .int .i64 0]⟩, 2, 24⟩ := TyOk.mk' Tryd.underlying75 (by kernel_rfl) (by kernel_rfl)
theorem ty76 : TyOk Tryd.prog 76 ⟨TypeDesc.struct #[{ name := "s", type := 9, offset := 0, embedded := false, tag := "", pkgPath := "", byteOffset := 0 }, { name := "at", type := 3, offset := 1, embedded := false, tag := "", pkgPath := "", byteOffset := 16 }], .agg ⟨[.string ⟨⟨[]⟩⟩, .int .i64 0]⟩, 2, 24⟩ := TyOk.mk' Tryd.underlying76 (by kernel_rfl) (by kernel_rfl)
theorem ty78 : TyOk Tryd.prog 78 ⟨TypeDesc.func #[74] #[47, 4] false, .nilFunc, 1, 8⟩ := TyOk.mk' Tryd.underlying78 (by kernel_rfl) (by kernel_rfl)
theorem ty79 : TyOk Tryd.prog 79 ⟨TypeDesc.func #[5] #[78] false, .nilFunc, 1, 8⟩ := TyOk.mk' Tryd.underlying79 (by kernel_rfl) (by kernel_rfl)
theorem ty81 : TyOk Tryd.prog 81 ⟨TypeDesc.func #[9, 3] #[47, 3] false, .nilFunc, 1, 8⟩ := TyOk.mk' Tryd.underlying81 (by kernel_rfl) (by kernel_rfl)
theorem ty82 : TyOk Tryd.prog 82 ⟨TypeDesc.int IntKind.i64, .int .i64 0, 1, 8⟩ := TyOk.mk' Tryd.underlying82 (by kernel_rfl) (by kernel_rfl)
theorem ty84 : TyOk Tryd.prog 84 ⟨TypeDesc.pointer 86, .pointer none, 1, 8⟩ := TyOk.mk' Tryd.underlying84 (by kernel_rfl) (by kernel_rfl)
theorem ty85 : TyOk Tryd.prog 85 ⟨TypeDesc.struct #[{ name := "l", type := 38, offset := 0, embedded := false, tag := "", pkgPath := "", byteOffset := 0 }, { name := "at", type := 3, offset := 1, embedded := false, tag := "", pkgPath := "", byteOffset := 24 }, { name := "out", type := 53, offset := 2, embedded := false, tag := "", pkgPath := "", byteOffset := 32 }, { name := "deep", type := 3, offset := 3, embedded := false, tag := "", pkgPath := "", byteOffset := 56 }], .agg ⟨[.slice none 0 0, .int .i64 0, .slice none 0 0, .int .i64 0]⟩, 4, 64⟩ := TyOk.mk' Tryd.underlying85 (by kernel_rfl) (by kernel_rfl)
theorem ty86 : TyOk Tryd.prog 86 ⟨TypeDesc.struct #[{ name := "l", type := 38, offset := 0, embedded := false, tag := "", pkgPath := "", byteOffset := 0 }, { name := "at", type := 3, offset := 1, embedded := false, tag := "", pkgPath := "", byteOffset := 24 }, { name := "out", type := 53, offset := 2, embedded := false, tag := "", pkgPath := "", byteOffset := 32 }, { name := "deep", type := 3, offset := 3, embedded := false, tag := "", pkgPath := "", byteOffset := 56 }], .agg ⟨[.slice none 0 0, .int .i64 0, .slice none 0 0, .int .i64 0]⟩, 4, 64⟩ := TyOk.mk' Tryd.underlying86 (by kernel_rfl) (by kernel_rfl)
theorem ty87 : TyOk Tryd.prog 87 ⟨TypeDesc.func #[] #[3] false, .nilFunc, 1, 8⟩ := TyOk.mk' Tryd.underlying87 (by kernel_rfl) (by kernel_rfl)
theorem ty88 : TyOk Tryd.prog 88 ⟨TypeDesc.func #[] #[47] false, .nilFunc, 1, 8⟩ := TyOk.mk' Tryd.underlying88 (by kernel_rfl) (by kernel_rfl)
theorem ty89 : TyOk Tryd.prog 89 ⟨TypeDesc.func #[39] #[] false, .nilFunc, 1, 8⟩ := TyOk.mk' Tryd.underlying89 (by kernel_rfl) (by kernel_rfl)
theorem ty90 : TyOk Tryd.prog 90 ⟨TypeDesc.func #[3] #[3] false, .nilFunc, 1, 8⟩ := TyOk.mk' Tryd.underlying90 (by kernel_rfl) (by kernel_rfl)
theorem ty91 : TyOk Tryd.prog 91 ⟨TypeDesc.func #[57, 57] #[4] false, .nilFunc, 1, 8⟩ := TyOk.mk' Tryd.underlying91 (by kernel_rfl) (by kernel_rfl)
theorem ty92 : TyOk Tryd.prog 92 ⟨TypeDesc.func #[59] #[4] false, .nilFunc, 1, 8⟩ := TyOk.mk' Tryd.underlying92 (by kernel_rfl) (by kernel_rfl)
theorem ty94 : TyOk Tryd.prog 94 ⟨TypeDesc.func #[9, 9] #[9, 4] false, .nilFunc, 1, 8⟩ := TyOk.mk' Tryd.underlying94 (by kernel_rfl) (by kernel_rfl)
theorem ty95 : TyOk Tryd.prog 95 ⟨TypeDesc.func #[9, 9, 3, 3, 70] #[70] false, .nilFunc, 1, 8⟩ := TyOk.mk' Tryd.underlying95 (by kernel_rfl) (by kernel_rfl)
theorem ty96 : TyOk Tryd.prog 96 ⟨TypeDesc.func #[] #[47, 4] false, .nilFunc, 1, 8⟩ := TyOk.mk' Tryd.underlying96 (by kernel_rfl) (by kernel_rfl)
theorem ty97 : TyOk Tryd.prog 97 ⟨TypeDesc.func #[9, 3] #[9] false, .nilFunc, 1, 8⟩ := TyOk.mk' Tryd.underlying97 (by kernel_rfl) (by kernel_rfl)
theorem ty98 : TyOk Tryd.prog 98 ⟨TypeDesc.func #[100] #[3] false, .nilFunc, 1, 8⟩ := TyOk.mk' Tryd.underlying98 (by kernel_rfl) (by kernel_rfl)
theorem ty99 : TyOk Tryd.prog 99 ⟨TypeDesc.struct #[{ name := "below", type := 87, offset := 0, embedded := false, tag := "", pkgPath := "", byteOffset := 0 }, { name := "signs", type := 35, offset := 1, embedded := false, tag := "", pkgPath := "", byteOffset := 8 }, { name := "kinds", type := 57, offset := 2, embedded := false, tag := "", pkgPath := "", byteOffset := 32 }], .agg ⟨[.nilFunc, .slice none 0 0, .slice none 0 0]⟩, 3, 56⟩ := TyOk.mk' Tryd.underlying99 (by kernel_rfl) (by kernel_rfl)
theorem ty100 : TyOk Tryd.prog 100 ⟨TypeDesc.struct #[{ name := "below", type := 87, offset := 0, embedded := false, tag := "", pkgPath := "", byteOffset := 0 }, { name := "signs", type := 35, offset := 1, embedded := false, tag := "", pkgPath := "", byteOffset := 8 }, { name := "kinds", type := 57, offset := 2, embedded := false, tag := "", pkgPath := "", byteOffset := 32 }], .agg ⟨[.nilFunc, .slice none 0 0, .slice none 0 0]⟩, 3, 56⟩ := TyOk.mk' Tryd.underlying100 (by kernel_rfl) (by kernel_rfl)
theorem ty101 : TyOk Tryd.prog 101 ⟨TypeDesc.func #[23, 23] #[4] false, .nilFunc, 1, 8⟩ := TyOk.mk' Tryd.underlying101 (by kernel_rfl) (by kernel_rfl)
theorem ty102 : TyOk Tryd.prog 102 ⟨TypeDesc.func #[9, 9] #[3] false, .nilFunc, 1, 8⟩ := TyOk.mk' Tryd.underlying102 (by kernel_rfl) (by kernel_rfl)
theorem ty103 : TyOk Tryd.prog 103 ⟨TypeDesc.int IntKind.i64, .int .i64 0, 1, 8⟩ := TyOk.mk' Tryd.underlying103 (by kernel_rfl) (by kernel_rfl)
theorem ty105 : TyOk Tryd.prog 105 ⟨TypeDesc.func #[9, 3, 3] #[2, 70] false, .nilFunc, 1, 8⟩ := TyOk.mk' Tryd.underlying105 (by kernel_rfl) (by kernel_rfl)
theorem ty106 : TyOk Tryd.prog 106 ⟨TypeDesc.pointer 118, .pointer none, 1, 8⟩ := TyOk.mk' Tryd.underlying106 (by kernel_rfl) (by kernel_rfl)
theorem ty107 : TyOk Tryd.prog 107 ⟨TypeDesc.func #[9, 9] #[106] false, .nilFunc, 1, 8⟩ := TyOk.mk' Tryd.underlying107 (by kernel_rfl) (by kernel_rfl)
theorem ty108 : TyOk Tryd.prog 108 ⟨TypeDesc.func #[9, 9, 3] #[106] false, .nilFunc, 1, 8⟩ := TyOk.mk' Tryd.underlying108 (by kernel_rfl) (by kernel_rfl)
theorem ty109 : TyOk Tryd.prog 109 ⟨TypeDesc.func #[2, 3] #[9] false, .nilFunc, 1, 8⟩ := TyOk.mk' Tryd.underlying109 (by kernel_rfl) (by kernel_rfl)
theorem ty110 : TyOk Tryd.prog 110 ⟨TypeDesc.func #[9, 9] #[4] false, .nilFunc, 1, 8⟩ := TyOk.mk' Tryd.underlying110 (by kernel_rfl) (by kernel_rfl)
theorem ty111 : TyOk Tryd.prog 111 ⟨TypeDesc.func #[35, 9] #[3] false, .nilFunc, 1, 8⟩ := TyOk.mk' Tryd.underlying111 (by kernel_rfl) (by kernel_rfl)
theorem ty112 : TyOk Tryd.prog 112 ⟨TypeDesc.func #[59] #[3] false, .nilFunc, 1, 8⟩ := TyOk.mk' Tryd.underlying112 (by kernel_rfl) (by kernel_rfl)
theorem ty113 : TyOk Tryd.prog 113 ⟨TypeDesc.func #[9, 5] #[3] false, .nilFunc, 1, 8⟩ := TyOk.mk' Tryd.underlying113 (by kernel_rfl) (by kernel_rfl)
theorem ty115 : TyOk Tryd.prog 115 ⟨TypeDesc.func #[9, 3, 3] #[50, 70] false, .nilFunc, 1, 8⟩ := TyOk.mk' Tryd.underlying115 (by kernel_rfl) (by kernel_rfl)
theorem ty116 : TyOk Tryd.prog 116 ⟨TypeDesc.func #[9] #[9] false, .nilFunc, 1, 8⟩ := TyOk.mk' Tryd.underlying116 (by kernel_rfl) (by kernel_rfl)
theorem ty117 : TyOk Tryd.prog 117 ⟨TypeDesc.struct #[{ name := "Func", type := 9, offset := 0, embedded := false, tag := "", pkgPath := "", byteOffset := 0 }, { name := "Num", type := 9, offset := 1, embedded := false, tag := "", pkgPath := "", byteOffset := 16 }, { name := "Err", type := 70, offset := 2, embedded := false, tag := "", pkgPath := "", byteOffset := 32 }], .agg ⟨[.string ⟨⟨[]⟩⟩, .string ⟨⟨[]⟩⟩, .nilIface]⟩, 3, 48⟩ := TyOk.mk' Tryd.underlying117 (by kernel_rfl) (by kernel_rfl)
theorem ty118 : TyOk Tryd.prog 118 ⟨TypeDesc.struct #[{ name := "Func", type := 9, offset := 0, embedded := false, tag := "", pkgPath := "", byteOffset := 0 }, { name := "Num", type := 9, offset := 1, embedded := false, tag := "", pkgPath := "", byteOffset := 16 }, { name := "Err", type := 70, offset := 2, embedded := false, tag := "", pkgPath := "", byteOffset := 32 }], .agg ⟨[.string ⟨⟨[]⟩⟩, .string ⟨⟨[]⟩⟩, .nilIface]⟩, 3, 48⟩ := TyOk.mk' Tryd.underlying118 (by kernel_rfl) (by kernel_rfl)
theorem ty119 : TyOk Tryd.prog 119 ⟨TypeDesc.func #[9] #[70] false, .nilFunc, 1, 8⟩ := TyOk.mk' Tryd.underlying119 (by kernel_rfl) (by kernel_rfl)
theorem ty120 : TyOk Tryd.prog 120 ⟨TypeDesc.array 24 5, .agg ⟨[.int .u8 0, .int .u8 0, .int .u8 0, .int .u8 0, .int .u8 0, .int .u8 0, .int .u8 0, .int .u8 0, .int .u8 0, .int .u8 0, .int .u8 0, .int .u8 0, .int .u8 0, .int .u8 0, .int .u8 0, .int .u8 0, .int .u8 0, .int .u8 0, .int .u8 0, .int .u8 0, .int .u8 0, .int .u8 0, .int .u8 0, .int .u8 0]⟩, 24, 24⟩ := TyOk.mk' Tryd.underlying120 (by kernel_rfl) (by kernel_rfl)
theorem ty121 : TyOk Tryd.prog 121 ⟨TypeDesc.func #[50] #[3] false, .nilFunc, 1, 8⟩ := TyOk.mk' Tryd.underlying121 (by kernel_rfl) (by kernel_rfl)
theorem ty122 : TyOk Tryd.prog 122 ⟨TypeDesc.func #[48, 50] #[] false, .nilFunc, 1, 8⟩ := TyOk.mk' Tryd.underlying122 (by kernel_rfl) (by kernel_rfl)
theorem ty124 : TyOk Tryd.prog 124 ⟨TypeDesc.func #[48, 50, 3, 4, 4] #[48, 9] false, .nilFunc, 1, 8⟩ := TyOk.mk' Tryd.underlying124 (by kernel_rfl) (by kernel_rfl)
theorem ty125 : TyOk Tryd.prog 125 ⟨TypeDesc.int IntKind.u32, .int .u32 0, 1, 4⟩ := TyOk.mk' Tryd.underlying125 (by kernel_rfl) (by kernel_rfl)
theorem ty127 : TyOk Tryd.prog 127 ⟨TypeDesc.func #[9] #[125, 125] false, .nilFunc, 1, 8⟩ := TyOk.mk' Tryd.underlying127 (by kernel_rfl) (by kernel_rfl)
theorem ty128 : TyOk Tryd.prog 128 ⟨TypeDesc.func #[5] #[5] false, .nilFunc, 1, 8⟩ := TyOk.mk' Tryd.underlying128 (by kernel_rfl) (by kernel_rfl)
theorem ty129 : TyOk Tryd.prog 129 ⟨TypeDesc.pointer 5, .pointer none, 1, 8⟩ := TyOk.mk' Tryd.underlying129 (by kernel_rfl) (by kernel_rfl)
theorem ty130 : TyOk Tryd.prog 130 ⟨TypeDesc.pointer 132, .pointer none, 1, 8⟩ := TyOk.mk' Tryd.underlying130 (by kernel_rfl) (by kernel_rfl)
theorem ty131 : TyOk Tryd.prog 131 ⟨TypeDesc.struct #[{ name := "s", type := 9, offset := 0, embedded := false, tag := "", pkgPath := "", byteOffset := 0 }], .agg ⟨[.string ⟨⟨[]⟩⟩]⟩, 1, 16⟩ := TyOk.mk' Tryd.underlying131 (by kernel_rfl) (by kernel_rfl)
theorem ty132 : TyOk Tryd.prog 132 ⟨TypeDesc.struct #[{ name := "s", type := 9, offset := 0, embedded := false, tag := "", pkgPath := "", byteOffset := 0 }], .agg ⟨[.string ⟨⟨[]⟩⟩]⟩, 1, 16⟩ := TyOk.mk' Tryd.underlying132 (by kernel_rfl) (by kernel_rfl)
theorem ty133 : TyOk Tryd.prog 133 ⟨TypeDesc.func #[4] #[3] false, .nilFunc, 1, 8⟩ := TyOk.mk' Tryd.underlying133 (by kernel_rfl) (by kernel_rfl)
theorem ty134 : TyOk Tryd.prog 134 ⟨TypeDesc.array 20 50, .agg ⟨[.int .u64 0, .int .u64 0, .int .u64 0, .int .u64 0, .int .u64 0, .int .u64 0, .int .u64 0, .int .u64 0, .int .u64 0, .int .u64 0, .int .u64 0, .int .u64 0, .int .u64 0, .int .u64 0, .int .u64 0, .int .u64 0, .int .u64 0, .int .u64 0, .int .u64 0, .int .u64 0]⟩, 20, 160⟩ := TyOk.mk' Tryd.underlying134 (by kernel_rfl) (by kernel_rfl)
theorem ty135 : TyOk Tryd.prog 135 ⟨TypeDesc.array 65 5, .agg ⟨[.int .u8 0, .int .u8 0, .int .u8 0, .int .u8 0, .int .u8 0, .int .u8 0, .int .u8 0, .int .u8 0, .int .u8 0, .int .u8 0, .int .u8 0, .int .u8 0, .int .u8 0, .int .u8 0, .int .u8 0, .int .u8 0, .int .u8 0, .int .u8 0, .int .u8 0, .int .u8 0, .int .u8 0, .int .u8 0, .int .u8 0, .int .u8 0, .int .u8 0, .int .u8 0, .int .u8 0, .int .u8 0, .int .u8 0, .int .u8 0, .int .u8 0, .int .u8 0, .int .u8 0, .int .u8 0, .int .u8 0, .int .u8 0, .int .u8 0, .int .u8 0, .int .u8 0, .int .u8 0, .int .u8 0, .int .u8 0, .int .u8 0, .int .u8 0, .int .u8 0, .int .u8 0, .int .u8 0, .int .u8 0, .int .u8 0, .int .u8 0, .int .u8 0, .int .u8 0, .int .u8 0, .int .u8 0, .int .u8 0, .int .u8 0, .int .u8 0, .int .u8 0, .int .u8 0, .int .u8 0, .int .u8 0, .int .u8 0, .int .u8 0, .int .u8 0, .int .u8 0]⟩, 65, 65⟩ := TyOk.mk' Tryd.underlying135 (by kernel_rfl) (by kernel_rfl)
theorem ty136 : TyOk Tryd.prog 136 ⟨TypeDesc.func #[3] #[4] false, .nilFunc, 1, 8⟩ := TyOk.mk' Tryd.underlying136 (by kernel_rfl) (by kernel_rfl)
theorem ty137 : TyOk Tryd.prog 137 ⟨TypeDesc.func #[51] #[3] false, .nilFunc, 1, 8⟩ := TyOk.mk' Tryd.underlying137 (by kernel_rfl) (by kernel_rfl)
theorem ty138 : TyOk Tryd.prog 138 ⟨TypeDesc.func #[125] #[3] false, .nilFunc, 1, 8⟩ := TyOk.mk' Tryd.underlying138 (by kernel_rfl) (by kernel_rfl)
theorem ty139 : TyOk Tryd.prog 139 ⟨TypeDesc.func #[9] #[] false, .nilFunc, 1, 8⟩ := TyOk.mk' Tryd.underlying139 (by kernel_rfl) (by kernel_rfl)
theorem ty140 : TyOk Tryd.prog 140 ⟨TypeDesc.array 32 5, .agg ⟨[.int .u8 0, .int .u8 0, .int .u8 0, .int .u8 0, .int .u8 0, .int .u8 0, .int .u8 0, .int .u8 0, .int .u8 0, .int .u8 0, .int .u8 0, .int .u8 0, .int .u8 0, .int .u8 0, .int .u8 0, .int .u8 0, .int .u8 0, .int .u8 0, .int .u8 0, .int .u8 0, .int .u8 0, .int .u8 0, .int .u8 0, .int .u8 0, .int .u8 0, .int .u8 0, .int .u8 0, .int .u8 0, .int .u8 0, .int .u8 0, .int .u8 0, .int .u8 0]⟩, 32, 32⟩ := TyOk.mk' Tryd.underlying140 (by kernel_rfl) (by kernel_rfl)
theorem ty141 : TyOk Tryd.prog 141 ⟨TypeDesc.array 64 5, .agg ⟨[.int .u8 0, .int .u8 0, .int .u8 0, .int .u8 0, .int .u8 0, .int .u8 0, .int .u8 0, .int .u8 0, .int .u8 0, .int .u8 0, .int .u8 0, .int .u8 0, .int .u8 0, .int .u8 0, .int .u8 0, .int .u8 0, .int .u8 0, .int .u8 0, .int .u8 0, .int .u8 0, .int .u8 0, .int .u8 0, .int .u8 0, .int .u8 0, .int .u8 0, .int .u8 0, .int .u8 0, .int .u8 0, .int .u8 0, .int .u8 0, .int .u8 0, .int .u8 0, .int .u8 0, .int .u8 0, .int .u8 0, .int .u8 0, .int .u8 0, .int .u8 0, .int .u8 0, .int .u8 0, .int .u8 0, .int .u8 0, .int .u8 0, .int .u8 0, .int .u8 0, .int .u8 0, .int .u8 0, .int .u8 0, .int .u8 0, .int .u8 0, .int .u8 0, .int .u8 0, .int .u8 0, .int .u8 0, .int .u8 0, .int .u8 0, .int .u8 0, .int .u8 0, .int .u8 0, .int .u8 0, .int .u8 0, .int .u8 0, .int .u8 0, .int .u8 0]⟩, 64, 64⟩ := TyOk.mk' Tryd.underlying141 (by kernel_rfl) (by kernel_rfl)
theorem ty142 : TyOk Tryd.prog 142 ⟨TypeDesc.func #[23] #[3] false, .nilFunc, 1, 8⟩ := TyOk.mk' Tryd.underlying142 (by kernel_rfl) (by kernel_rfl)
theorem ty143 : TyOk Tryd.prog 143 ⟨TypeDesc.func #[9] #[3] false, .nilFunc, 1, 8⟩ := TyOk.mk' Tryd.underlying143 (by kernel_rfl) (by kernel_rfl)
theorem ty144 : TyOk Tryd.prog 144 ⟨TypeDesc.func #[] #[9] false, .nilFunc, 1, 8⟩ := TyOk.mk' Tryd.underlying144 (by kernel_rfl) (by kernel_rfl)
theorem rows_ok : ∀ p ∈ rows, TyOk Tryd.prog p.1 p.2 := by
  intro p hp
  simp only [rows, List.mem_cons, List.not_mem_nil, or_false] at hp
  rcases hp with rfl | rfl | rfl | rfl | rfl | rfl | rfl | rfl | rfl | rfl | rfl | rfl | rfl | rfl | rfl | rfl | rfl | rfl | rfl | rfl | rfl | rfl | rfl | rfl | rfl | rfl | rfl | rfl | rfl | rfl | rfl | rfl | rfl | rfl | rfl | rfl | rfl | rfl | rfl | rfl | rfl | rfl | rfl | rfl | rfl | rfl | rfl | rfl | rfl | rfl | rfl | rfl | rfl | rfl | rfl | rfl | rfl | rfl | rfl | rfl | rfl | rfl | rfl | rfl | rfl | rfl | rfl | rfl | rfl | rfl | rfl | rfl | rfl | rfl | rfl | rfl | rfl | rfl | rfl | rfl | rfl | rfl | rfl | rfl | rfl | rfl | rfl | rfl | rfl | rfl | rfl | rfl | rfl | rfl | rfl | rfl | rfl | rfl | rfl | rfl | rfl | rfl | rfl | rfl | rfl | rfl | rfl | rfl | rfl | rfl | rfl | rfl | rfl | rfl | rfl | rfl | rfl | rfl | rfl
  · exact ty1
  · exact ty2
  · exact ty3
  · exact ty4
  · exact ty5
  · exact ty9
  · exact ty12
  · exact ty13
  · exact ty20
  · exact ty21
  · exact ty22
  · exact ty23
  · exact ty24
  · exact ty26
  · exact ty28
  · exact ty29
  · exact ty30
  · exact ty31
  · exact ty32
  · exact ty33
  · exact ty34
  · exact ty35
  · exact ty36
  · exact ty37
  · exact ty38
  · exact ty39
  · exact ty41
  · exact ty42
  · exact ty43
  · exact ty44
  · exact ty45
  · exact ty46
  · exact ty47
  · exact ty48
  · exact ty49
  · exact ty50
  · exact ty51
  · exact ty52
  · exact ty53
  · exact ty55
  · exact ty56
  · exact ty57
  · exact ty58
  · exact ty59
  · exact ty60
  · exact ty61
  · exact ty62
  · exact ty63
  · exact ty64
  · exact ty65
  · exact ty67
  · exact ty68
  · exact ty69
  · exact ty70
  · exact ty72
  · exact ty73
  · exact ty74
  · exact ty75
  · exact ty76
  · exact ty78
  · exact ty79
  · exact ty81
  · exact ty82
  · exact ty84
  · exact ty85
  · exact ty86
  · exact ty87
  · exact ty88
  · exact ty89
  · exact ty90
  · exact ty91
  · exact ty92
  · exact ty94
  · exact ty95
  · exact ty96
  · exact ty97
  · exact ty98
  · exact ty99
  · exact ty100
  · exact ty101
  · exact ty102
  · exact ty103
  · exact ty105
  · exact ty106
  · exact ty107
  · exact ty108
  · exact ty109
  · exact ty110
  · exact ty111
  · exact ty112
  · exact ty113
  · exact ty115
  · exact ty116
  · exact ty117
  · exact ty118
  · exact ty119
  · exact ty120
  · exact ty121
  · exact ty122
  · exact ty124
  · exact ty125
  · exact ty127
  · exact ty128
  · exact ty129
  · exact ty130
  · exact ty131
  · exact ty132
  · exact ty133
  · exact ty134
  · exact ty135
  · exact ty136
  · exact ty137
  · exact ty138
  · exact ty139
  · exact ty140
  · exact ty141
  · exact ty142
  · exact ty143
  · exact ty144
instance tab : Tab Tryd.prog := ⟨lookT rows, lookT_ok rows_ok⟩
end Go.Proofs.YtfpklhgkndnjjaaDoor
