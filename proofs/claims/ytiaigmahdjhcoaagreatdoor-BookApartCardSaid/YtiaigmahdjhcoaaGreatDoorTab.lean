/-
  The table of the types of this seat's translation, and which functions can be entered. Printed by gentab.py.
-/
import Derived.Test.YtiaigmahdjhcoaaGreatDoorChecked
import Derived.Test.YtiaigmahdjhcoaaGreatDoorTy
namespace Go.Proofs.YtiaigmahdjhcoaaGreatDoor
open Go Go.E
set_option maxRecDepth 100000
def rows : List (Nat × TRow) := [
  (1, ⟨TypeDesc.func #[] #[] false, .nilFunc, 1, 8⟩),
  (2, ⟨TypeDesc.int IntKind.i64, .int .i64 0, 1, 8⟩),
  (3, ⟨TypeDesc.int IntKind.i64, .int .i64 0, 1, 8⟩),
  (4, ⟨TypeDesc.bool, .bool false, 1, 1⟩),
  (5, ⟨TypeDesc.int IntKind.u8, .int .u8 0, 1, 1⟩),
  (9, ⟨TypeDesc.string, .string ⟨⟨[]⟩⟩, 1, 16⟩),
  (12, ⟨TypeDesc.int IntKind.u64, .int .u64 0, 1, 8⟩),
  (13, ⟨TypeDesc.struct #[{ name := "msg", type := 9, offset := 0, embedded := false, tag := "", pkgPath := "", byteOffset := 0 }, { name := "addr", type := 12, offset := 1, embedded := false, tag := "", pkgPath := "", byteOffset := 16 }], .agg ⟨[.string ⟨⟨[]⟩⟩, .int .u64 0]⟩, 2, 24⟩),
  (20, ⟨TypeDesc.interface #[], .nilIface, 1, 16⟩),
  (21, ⟨TypeDesc.int IntKind.i32, .int .i32 0, 1, 4⟩),
  (22, ⟨TypeDesc.slice 5, .slice none 0 0, 1, 24⟩),
  (23, ⟨TypeDesc.func #[] #[4] false, .nilFunc, 1, 8⟩),
  (24, ⟨TypeDesc.slice 47, .slice none 0 0, 1, 24⟩),
  (25, ⟨TypeDesc.struct #[{ name := "Sheets", type := 24, offset := 0, embedded := false, tag := "", pkgPath := "", byteOffset := 0 }], .agg ⟨[.slice none 0 0]⟩, 1, 24⟩),
  (26, ⟨TypeDesc.struct #[{ name := "Sheets", type := 24, offset := 0, embedded := false, tag := "", pkgPath := "", byteOffset := 0 }], .agg ⟨[.slice none 0 0]⟩, 1, 24⟩),
  (27, ⟨TypeDesc.func #[22, 5] #[26] false, .nilFunc, 1, 8⟩),
  (28, ⟨TypeDesc.struct #[{ name := "Sheet", type := 9, offset := 0, embedded := false, tag := "", pkgPath := "", byteOffset := 0 }, { name := "Row", type := 3, offset := 1, embedded := false, tag := "", pkgPath := "", byteOffset := 16 }, { name := "Col", type := 3, offset := 2, embedded := false, tag := "", pkgPath := "", byteOffset := 24 }], .agg ⟨[.string ⟨⟨[]⟩⟩, .int .i64 0, .int .i64 0]⟩, 3, 32⟩),
  (29, ⟨TypeDesc.struct #[{ name := "Sheet", type := 9, offset := 0, embedded := false, tag := "", pkgPath := "", byteOffset := 0 }, { name := "Row", type := 3, offset := 1, embedded := false, tag := "", pkgPath := "", byteOffset := 16 }, { name := "Col", type := 3, offset := 2, embedded := false, tag := "", pkgPath := "", byteOffset := 24 }], .agg ⟨[.string ⟨⟨[]⟩⟩, .int .i64 0, .int .i64 0]⟩, 3, 32⟩),
  (30, ⟨TypeDesc.int IntKind.i64, .int .i64 0, 1, 8⟩),
  (32, ⟨TypeDesc.func #[26, 29, 9] #[26, 30] false, .nilFunc, 1, 8⟩),
  (33, ⟨TypeDesc.func #[3] #[9] false, .nilFunc, 1, 8⟩),
  (35, ⟨TypeDesc.func #[26, 29, 9] #[26, 3] false, .nilFunc, 1, 8⟩),
  (36, ⟨TypeDesc.func #[26] #[4] false, .nilFunc, 1, 8⟩),
  (37, ⟨TypeDesc.func #[26, 29] #[9] false, .nilFunc, 1, 8⟩),
  (38, ⟨TypeDesc.func #[26, 26] #[4] false, .nilFunc, 1, 8⟩),
  (39, ⟨TypeDesc.func #[30] #[3] false, .nilFunc, 1, 8⟩),
  (40, ⟨TypeDesc.func #[22, 5, 5, 5, 5, 5] #[4] false, .nilFunc, 1, 8⟩),
  (41, ⟨TypeDesc.slice 29, .slice none 0 0, 1, 24⟩),
  (42, ⟨TypeDesc.func #[26] #[41] false, .nilFunc, 1, 8⟩),
  (43, ⟨TypeDesc.func #[26] #[26] false, .nilFunc, 1, 8⟩),
  (44, ⟨TypeDesc.func #[22, 5, 5, 5] #[4] false, .nilFunc, 1, 8⟩),
  (45, ⟨TypeDesc.slice 48, .slice none 0 0, 1, 24⟩),
  (46, ⟨TypeDesc.struct #[{ name := "Name", type := 9, offset := 0, embedded := false, tag := "", pkgPath := "", byteOffset := 0 }, { name := "Cols", type := 3, offset := 1, embedded := false, tag := "", pkgPath := "", byteOffset := 16 }, { name := "Rows", type := 45, offset := 2, embedded := false, tag := "", pkgPath := "", byteOffset := 24 }], .agg ⟨[.string ⟨⟨[]⟩⟩, .int .i64 0, .slice none 0 0]⟩, 3, 48⟩),
  (47, ⟨TypeDesc.struct #[{ name := "Name", type := 9, offset := 0, embedded := false, tag := "", pkgPath := "", byteOffset := 0 }, { name := "Cols", type := 3, offset := 1, embedded := false, tag := "", pkgPath := "", byteOffset := 16 }, { name := "Rows", type := 45, offset := 2, embedded := false, tag := "", pkgPath := "", byteOffset := 24 }], .agg ⟨[.string ⟨⟨[]⟩⟩, .int .i64 0, .slice none 0 0]⟩, 3, 48⟩),
  (48, ⟨TypeDesc.slice 9, .slice none 0 0, 1, 24⟩),
  (49, ⟨TypeDesc.func #[22, 5] #[4] false, .nilFunc, 1, 8⟩),
  (50, ⟨TypeDesc.slice 57, .slice none 0 0, 1, 24⟩),
  (51, ⟨TypeDesc.slice 71, .slice none 0 0, 1, 24⟩),
  (52, ⟨TypeDesc.func #[51] #[4] false, .nilFunc, 1, 8⟩),
  (53, ⟨TypeDesc.struct #[{ name := "Sheet", type := 9, offset := 0, embedded := false, tag := "", pkgPath := "", byteOffset := 0 }, { name := "Col", type := 3, offset := 1, embedded := false, tag := "", pkgPath := "", byteOffset := 16 }, { name := "Row", type := 3, offset := 2, embedded := false, tag := "", pkgPath := "", byteOffset := 24 }, { name := "AbsCol", type := 4, offset := 3, embedded := false, tag := "", pkgPath := "", byteOffset := 32 }, { name := "AbsRow", type := 4, offset := 4, embedded := false, tag := "", pkgPath := "", byteOffset := 33 }], .agg ⟨[.string ⟨⟨[]⟩⟩, .int .i64 0, .int .i64 0, .bool false, .bool false]⟩, 5, 40⟩),
  (54, ⟨TypeDesc.struct #[{ name := "Sheet", type := 9, offset := 0, embedded := false, tag := "", pkgPath := "", byteOffset := 0 }, { name := "Col", type := 3, offset := 1, embedded := false, tag := "", pkgPath := "", byteOffset := 16 }, { name := "Row", type := 3, offset := 2, embedded := false, tag := "", pkgPath := "", byteOffset := 24 }, { name := "AbsCol", type := 4, offset := 3, embedded := false, tag := "", pkgPath := "", byteOffset := 32 }, { name := "AbsRow", type := 4, offset := 4, embedded := false, tag := "", pkgPath := "", byteOffset := 33 }], .agg ⟨[.string ⟨⟨[]⟩⟩, .int .i64 0, .int .i64 0, .bool false, .bool false]⟩, 5, 40⟩),
  (55, ⟨TypeDesc.slice 3, .slice none 0 0, 1, 24⟩),
  (56, ⟨TypeDesc.struct #[{ name := "Kind", type := 3, offset := 0, embedded := false, tag := "", pkgPath := "", byteOffset := 0 }, { name := "Num", type := 3, offset := 1, embedded := false, tag := "", pkgPath := "", byteOffset := 8 }, { name := "Text", type := 9, offset := 2, embedded := false, tag := "", pkgPath := "", byteOffset := 16 }, { name := "Ref", type := 54, offset := 3, embedded := false, tag := "", pkgPath := "", byteOffset := 32 }, { name := "To", type := 54, offset := 8, embedded := false, tag := "", pkgPath := "", byteOffset := 72 }, { name := "Kids", type := 55, offset := 13, embedded := false, tag := "", pkgPath := "", byteOffset := 112 }], .agg ⟨[.int .i64 0, .int .i64 0, .string ⟨⟨[]⟩⟩, .string ⟨⟨[]⟩⟩, .int .i64 0, .int .i64 0, .bool false, .bool false, .string ⟨⟨[]⟩⟩, .int .i64 0, .int .i64 0, .bool false, .bool false, .slice none 0 0]⟩, 14, 136⟩),
  (57, ⟨TypeDesc.struct #[{ name := "Kind", type := 3, offset := 0, embedded := false, tag := "", pkgPath := "", byteOffset := 0 }, { name := "Num", type := 3, offset := 1, embedded := false, tag := "", pkgPath := "", byteOffset := 8 }, { name := "Text", type := 9, offset := 2, embedded := false, tag := "", pkgPath := "", byteOffset := 16 }, { name := "Ref", type := 54, offset := 3, embedded := false, tag := "", pkgPath := "", byteOffset := 32 }, { name := "To", type := 54, offset := 8, embedded := false, tag := "", pkgPath := "", byteOffset := 72 }, { name := "Kids", type := 55, offset := 13, embedded := false, tag := "", pkgPath := "", byteOffset := 112 }], .agg ⟨[.int .i64 0, .int .i64 0, .string ⟨⟨[]⟩⟩, .string ⟨⟨[]⟩⟩, .int .i64 0, .int .i64 0, .bool false, .bool false, .string ⟨⟨[]⟩⟩, .int .i64 0, .int .i64 0, .bool false, .bool false, .slice none 0 0]⟩, 14, 136⟩),
  (58, ⟨TypeDesc.func #[50, 50] #[4] false, .nilFunc, 1, 8⟩),
  (59, ⟨TypeDesc.func #[50, 9, 51] #[50] false, .nilFunc, 1, 8⟩),
  (60, ⟨TypeDesc.func #[9, 9, 51] #[9] false, .nilFunc, 1, 8⟩),
  (61, ⟨TypeDesc.func #[50, 9, 9, 51] #[4] false, .nilFunc, 1, 8⟩),
  (62, ⟨TypeDesc.func #[22] #[50] false, .nilFunc, 1, 8⟩),
  (63, ⟨TypeDesc.func #[22, 5] #[51] false, .nilFunc, 1, 8⟩),
  (64, ⟨TypeDesc.func #[50] #[9] false, .nilFunc, 1, 8⟩),
  (65, ⟨TypeDesc.func #[22, 22, 5] #[4] false, .nilFunc, 1, 8⟩),
  (66, ⟨TypeDesc.func #[9] #[4] false, .nilFunc, 1, 8⟩),
  (67, ⟨TypeDesc.struct #[{ name := "To", type := 55, offset := 0, embedded := false, tag := "", pkgPath := "", byteOffset := 0 }, { name := "New", type := 3, offset := 1, embedded := false, tag := "", pkgPath := "", byteOffset := 24 }], .agg ⟨[.slice none 0 0, .int .i64 0]⟩, 2, 32⟩),
  (68, ⟨TypeDesc.struct #[{ name := "To", type := 55, offset := 0, embedded := false, tag := "", pkgPath := "", byteOffset := 0 }, { name := "New", type := 3, offset := 1, embedded := false, tag := "", pkgPath := "", byteOffset := 24 }], .agg ⟨[.slice none 0 0, .int .i64 0]⟩, 2, 32⟩),
  (69, ⟨TypeDesc.func #[3] #[68] false, .nilFunc, 1, 8⟩),
  (70, ⟨TypeDesc.struct #[{ name := "Sheet", type := 9, offset := 0, embedded := false, tag := "", pkgPath := "", byteOffset := 0 }, { name := "Rows", type := 68, offset := 1, embedded := false, tag := "", pkgPath := "", byteOffset := 16 }, { name := "Cols", type := 68, offset := 3, embedded := false, tag := "", pkgPath := "", byteOffset := 48 }, { name := "Gone", type := 4, offset := 5, embedded := false, tag := "", pkgPath := "", byteOffset := 80 }], .agg ⟨[.string ⟨⟨[]⟩⟩, .slice none 0 0, .int .i64 0, .slice none 0 0, .int .i64 0, .bool false]⟩, 6, 88⟩),
  (71, ⟨TypeDesc.struct #[{ name := "Sheet", type := 9, offset := 0, embedded := false, tag := "", pkgPath := "", byteOffset := 0 }, { name := "Rows", type := 68, offset := 1, embedded := false, tag := "", pkgPath := "", byteOffset := 16 }, { name := "Cols", type := 68, offset := 3, embedded := false, tag := "", pkgPath := "", byteOffset := 48 }, { name := "Gone", type := 4, offset := 5, embedded := false, tag := "", pkgPath := "", byteOffset := 80 }], .agg ⟨[.string ⟨⟨[]⟩⟩, .slice none 0 0, .int .i64 0, .slice none 0 0, .int .i64 0, .bool false]⟩, 6, 88⟩),
  (72, ⟨TypeDesc.func #[3, 3] #[68] false, .nilFunc, 1, 8⟩),
  (73, ⟨TypeDesc.func #[22, 5, 5, 9] #[4] false, .nilFunc, 1, 8⟩),
  (74, ⟨TypeDesc.func #[22] #[68] false, .nilFunc, 1, 8⟩),
  (75, ⟨TypeDesc.func #[68, 3] #[3] false, .nilFunc, 1, 8⟩),
  (76, ⟨TypeDesc.func #[22, 5, 5, 4, 5] #[4] false, .nilFunc, 1, 8⟩),
  (77, ⟨TypeDesc.func #[68, 68] #[68] false, .nilFunc, 1, 8⟩),
  (79, ⟨TypeDesc.func #[26, 29] #[3, 4] false, .nilFunc, 1, 8⟩),
  (80, ⟨TypeDesc.func #[26, 9] #[3] false, .nilFunc, 1, 8⟩),
  (81, ⟨TypeDesc.func #[47, 3, 3] #[4] false, .nilFunc, 1, 8⟩),
  (82, ⟨TypeDesc.func #[47] #[4] false, .nilFunc, 1, 8⟩),
  (83, ⟨TypeDesc.func #[47, 47] #[4] false, .nilFunc, 1, 8⟩),
  (84, ⟨TypeDesc.func #[47] #[47] false, .nilFunc, 1, 8⟩),
  (85, ⟨TypeDesc.func #[24, 24, 83] #[4] false, .nilFunc, 1, 8⟩),
  (86, ⟨TypeDesc.func #[45, 45, 87] #[4] false, .nilFunc, 1, 8⟩),
  (87, ⟨TypeDesc.func #[48, 48] #[4] false, .nilFunc, 1, 8⟩),
  (88, ⟨TypeDesc.func #[24] #[24] false, .nilFunc, 1, 8⟩),
  (89, ⟨TypeDesc.func #[48] #[48] false, .nilFunc, 1, 8⟩),
  (90, ⟨TypeDesc.func #[68] #[4] false, .nilFunc, 1, 8⟩),
  (91, ⟨TypeDesc.func #[55, 55] #[4] false, .nilFunc, 1, 8⟩),
  (92, ⟨TypeDesc.func #[50] #[4] false, .nilFunc, 1, 8⟩),
  (93, ⟨TypeDesc.func #[57] #[57] false, .nilFunc, 1, 8⟩),
  (94, ⟨TypeDesc.struct #[{ name := "own", type := 9, offset := 0, embedded := false, tag := "", pkgPath := "", byteOffset := 0 }, { name := "shifts", type := 51, offset := 1, embedded := false, tag := "", pkgPath := "", byteOffset := 16 }], .agg ⟨[.string ⟨⟨[]⟩⟩, .slice none 0 0]⟩, 2, 40⟩),
  (95, ⟨TypeDesc.struct #[{ name := "own", type := 9, offset := 0, embedded := false, tag := "", pkgPath := "", byteOffset := 0 }, { name := "shifts", type := 51, offset := 1, embedded := false, tag := "", pkgPath := "", byteOffset := 16 }], .agg ⟨[.string ⟨⟨[]⟩⟩, .slice none 0 0]⟩, 2, 40⟩),
  (96, ⟨TypeDesc.func #[55] #[55] false, .nilFunc, 1, 8⟩),
  (97, ⟨TypeDesc.func #[57, 71] #[57] false, .nilFunc, 1, 8⟩),
  (99, ⟨TypeDesc.func #[9] #[50, 4] false, .nilFunc, 1, 8⟩),
  (100, ⟨TypeDesc.int IntKind.u64, .int .u64 0, 1, 8⟩),
  (101, ⟨TypeDesc.func #[50, 3] #[9] false, .nilFunc, 1, 8⟩),
  (102, ⟨TypeDesc.struct #[{ name := "L", type := 50, offset := 0, embedded := false, tag := "", pkgPath := "", byteOffset := 0 }, { name := "E", type := 3, offset := 1, embedded := false, tag := "", pkgPath := "", byteOffset := 24 }], .agg ⟨[.slice none 0 0, .int .i64 0]⟩, 2, 32⟩),
  (103, ⟨TypeDesc.struct #[{ name := "L", type := 50, offset := 0, embedded := false, tag := "", pkgPath := "", byteOffset := 0 }, { name := "E", type := 3, offset := 1, embedded := false, tag := "", pkgPath := "", byteOffset := 24 }], .agg ⟨[.slice none 0 0, .int .i64 0]⟩, 2, 32⟩),
  (104, ⟨TypeDesc.func #[9] #[103] false, .nilFunc, 1, 8⟩),
  (105, ⟨TypeDesc.func #[9] #[3, 4] false, .nilFunc, 1, 8⟩),
  (107, ⟨TypeDesc.func #[9] #[50, 30] false, .nilFunc, 1, 8⟩),
  (108, ⟨TypeDesc.int IntKind.u64, .int .u64 0, 1, 8⟩),
  (109, ⟨TypeDesc.func #[3] #[3] false, .nilFunc, 1, 8⟩),
  (110, ⟨TypeDesc.func #[57] #[4] false, .nilFunc, 1, 8⟩),
  (112, ⟨TypeDesc.func #[9] #[71, 4] false, .nilFunc, 1, 8⟩),
  (114, ⟨TypeDesc.func #[68, 3, 3] #[3, 3, 4] false, .nilFunc, 1, 8⟩),
  (115, ⟨TypeDesc.func #[54] #[4] false, .nilFunc, 1, 8⟩),
  (116, ⟨TypeDesc.pointer 118, .pointer none, 1, 8⟩),
  (117, ⟨TypeDesc.struct #[{ name := "l", type := 50, offset := 0, embedded := false, tag := "", pkgPath := "", byteOffset := 0 }, { name := "out", type := 22, offset := 1, embedded := false, tag := "", pkgPath := "", byteOffset := 24 }], .agg ⟨[.slice none 0 0, .slice none 0 0]⟩, 2, 48⟩),
  (118, ⟨TypeDesc.struct #[{ name := "l", type := 50, offset := 0, embedded := false, tag := "", pkgPath := "", byteOffset := 0 }, { name := "out", type := 22, offset := 1, embedded := false, tag := "", pkgPath := "", byteOffset := 24 }], .agg ⟨[.slice none 0 0, .slice none 0 0]⟩, 2, 48⟩),
  (119, ⟨TypeDesc.func #[3] #[] false, .nilFunc, 1, 8⟩),
  (120, ⟨TypeDesc.func #[9] #[9] false, .nilFunc, 1, 8⟩),
  (121, ⟨TypeDesc.func #[54] #[9] false, .nilFunc, 1, 8⟩),
  (122, ⟨TypeDesc.func #[9, 4] #[9] false, .nilFunc, 1, 8⟩),
  (123, ⟨TypeDesc.slice 131, .slice none 0 0, 1, 24⟩),
  (124, ⟨TypeDesc.struct #[{ name := "L", type := 123, offset := 0, embedded := false, tag := "", pkgPath := "", byteOffset := 0 }, { name := "E", type := 3, offset := 1, embedded := false, tag := "", pkgPath := "", byteOffset := 24 }], .agg ⟨[.slice none 0 0, .int .i64 0]⟩, 2, 32⟩),
  (125, ⟨TypeDesc.struct #[{ name := "L", type := 123, offset := 0, embedded := false, tag := "", pkgPath := "", byteOffset := 0 }, { name := "E", type := 3, offset := 1, embedded := false, tag := "", pkgPath := "", byteOffset := 24 }], .agg ⟨[.slice none 0 0, .int .i64 0]⟩, 2, 32⟩),
  (126, ⟨TypeDesc.func #[9] #[125] false, .nilFunc, 1, 8⟩),
  (127, ⟨TypeDesc.pointer 129, .pointer none, 1, 8⟩),
  (128, ⟨TypeDesc.struct #[{ name := "l", type := 123, offset := 0, embedded := false, tag := "", pkgPath := "", byteOffset := 0 }, { name := "i", type := 3, offset := 1, embedded := false, tag := "", pkgPath := "", byteOffset := 24 }, { name := "deep", type := 3, offset := 2, embedded := false, tag := "", pkgPath := "", byteOffset := 32 }, { name := "e", type := 3, offset := 3, embedded := false, tag := "", pkgPath := "", byteOffset := 40 }, { name := "out", type := 50, offset := 4, embedded := false, tag := "", pkgPath := "", byteOffset := 48 }], .agg ⟨[.slice none 0 0, .int .i64 0, .int .i64 0, .int .i64 0, .slice none 0 0]⟩, 5, 72⟩),
  (129, ⟨TypeDesc.struct #[{ name := "l", type := 123, offset := 0, embedded := false, tag := "", pkgPath := "", byteOffset := 0 }, { name := "i", type := 3, offset := 1, embedded := false, tag := "", pkgPath := "", byteOffset := 24 }, { name := "deep", type := 3, offset := 2, embedded := false, tag := "", pkgPath := "", byteOffset := 32 }, { name := "e", type := 3, offset := 3, embedded := false, tag := "", pkgPath := "", byteOffset := 40 }, { name := "out", type := 50, offset := 4, embedded := false, tag := "", pkgPath := "", byteOffset := 48 }], .agg ⟨[.slice none 0 0, .int .i64 0, .int .i64 0, .int .i64 0, .slice none 0 0]⟩, 5, 72⟩),
  (130, ⟨TypeDesc.struct #[{ name := "Kind", type := 3, offset := 0, embedded := false, tag := "", pkgPath := "", byteOffset := 0 }, { name := "Text", type := 9, offset := 1, embedded := false, tag := "", pkgPath := "", byteOffset := 8 }, { name := "Num", type := 3, offset := 2, embedded := false, tag := "", pkgPath := "", byteOffset := 24 }, { name := "Ref", type := 54, offset := 3, embedded := false, tag := "", pkgPath := "", byteOffset := 32 }, { name := "At", type := 3, offset := 8, embedded := false, tag := "", pkgPath := "", byteOffset := 72 }], .agg ⟨[.int .i64 0, .string ⟨⟨[]⟩⟩, .int .i64 0, .string ⟨⟨[]⟩⟩, .int .i64 0, .int .i64 0, .bool false, .bool false, .int .i64 0]⟩, 9, 80⟩),
  (131, ⟨TypeDesc.struct #[{ name := "Kind", type := 3, offset := 0, embedded := false, tag := "", pkgPath := "", byteOffset := 0 }, { name := "Text", type := 9, offset := 1, embedded := false, tag := "", pkgPath := "", byteOffset := 8 }, { name := "Num", type := 3, offset := 2, embedded := false, tag := "", pkgPath := "", byteOffset := 24 }, { name := "Ref", type := 54, offset := 3, embedded := false, tag := "", pkgPath := "", byteOffset := 32 }, { name := "At", type := 3, offset := 8, embedded := false, tag := "", pkgPath := "", byteOffset := 72 }], .agg ⟨[.int .i64 0, .string ⟨⟨[]⟩⟩, .int .i64 0, .string ⟨⟨[]⟩⟩, .int .i64 0, .int .i64 0, .bool false, .bool false, .int .i64 0]⟩, 9, 80⟩),
  (132, ⟨TypeDesc.func #[3, 3] #[3, 4] false, .nilFunc, 1, 8⟩),
  (134, ⟨TypeDesc.func #[9] #[123, 30] false, .nilFunc, 1, 8⟩),
  (135, ⟨TypeDesc.int IntKind.i64, .int .i64 0, 1, 8⟩),
  (137, ⟨TypeDesc.pointer 139, .pointer none, 1, 8⟩),
  (138, ⟨TypeDesc.struct #[{ name := "l", type := 123, offset := 0, embedded := false, tag := "", pkgPath := "", byteOffset := 0 }, { name := "at", type := 3, offset := 1, embedded := false, tag := "", pkgPath := "", byteOffset := 24 }, { name := "out", type := 50, offset := 2, embedded := false, tag := "", pkgPath := "", byteOffset := 32 }, { name := "deep", type := 3, offset := 3, embedded := false, tag := "", pkgPath := "", byteOffset := 56 }], .agg ⟨[.slice none 0 0, .int .i64 0, .slice none 0 0, .int .i64 0]⟩, 4, 64⟩),
  (139, ⟨TypeDesc.struct #[{ name := "l", type := 123, offset := 0, embedded := false, tag := "", pkgPath := "", byteOffset := 0 }, { name := "at", type := 3, offset := 1, embedded := false, tag := "", pkgPath := "", byteOffset := 24 }, { name := "out", type := 50, offset := 2, embedded := false, tag := "", pkgPath := "", byteOffset := 32 }, { name := "deep", type := 3, offset := 3, embedded := false, tag := "", pkgPath := "", byteOffset := 56 }], .agg ⟨[.slice none 0 0, .int .i64 0, .slice none 0 0, .int .i64 0]⟩, 4, 64⟩),
  (140, ⟨TypeDesc.func #[] #[3] false, .nilFunc, 1, 8⟩),
  (141, ⟨TypeDesc.func #[] #[131] false, .nilFunc, 1, 8⟩),
  (142, ⟨TypeDesc.func #[30] #[] false, .nilFunc, 1, 8⟩),
  (143, ⟨TypeDesc.interface #[("", 221)], .nilIface, 1, 16⟩),
  (144, ⟨TypeDesc.interface #[("", 221)], .nilIface, 1, 16⟩),
  (146, ⟨TypeDesc.func #[9] #[3, 144] false, .nilFunc, 1, 8⟩),
  (147, ⟨TypeDesc.func #[24, 82] #[3] false, .nilFunc, 1, 8⟩),
  (148, ⟨TypeDesc.func #[5] #[4] false, .nilFunc, 1, 8⟩),
  (149, ⟨TypeDesc.func #[54, 54] #[4] false, .nilFunc, 1, 8⟩),
  (150, ⟨TypeDesc.func #[51, 151] #[3] false, .nilFunc, 1, 8⟩),
  (151, ⟨TypeDesc.func #[71] #[4] false, .nilFunc, 1, 8⟩),
  (153, ⟨TypeDesc.func #[9] #[54, 4] false, .nilFunc, 1, 8⟩),
  (154, ⟨TypeDesc.func #[116, 57] #[] false, .nilFunc, 1, 8⟩),
  (155, ⟨TypeDesc.func #[57] #[] false, .nilFunc, 1, 8⟩),
  (157, ⟨TypeDesc.func #[9, 3] #[131, 3] false, .nilFunc, 1, 8⟩),
  (159, ⟨TypeDesc.func #[3] #[48, 55] false, .nilFunc, 1, 8⟩),
  (160, ⟨TypeDesc.func #[57] #[3] false, .nilFunc, 1, 8⟩),
  (161, ⟨TypeDesc.pointer 163, .pointer none, 1, 8⟩),
  (162, ⟨TypeDesc.struct #[{ name := "s", type := 9, offset := 0, embedded := false, tag := "", pkgPath := "", byteOffset := 0 }, { name := "at", type := 3, offset := 1, embedded := false, tag := "", pkgPath := "", byteOffset := 16 }], .agg ⟨[.string ⟨⟨[]⟩⟩, .int .i64 0]⟩, 2, 24⟩),
  (163, ⟨TypeDesc.struct #[{ name := "s", type := 9, offset := 0, embedded := false, tag := "", pkgPath := "", byteOffset := 0 }, { name := "at", type := 3, offset := 1, embedded := false, tag := "", pkgPath := "", byteOffset := 16 }], .agg ⟨[.string ⟨⟨[]⟩⟩, .int .i64 0]⟩, 2, 24⟩),
  (164, ⟨TypeDesc.func #[148] #[9] false, .nilFunc, 1, 8⟩),
  (166, ⟨TypeDesc.func #[161] #[131, 4] false, .nilFunc, 1, 8⟩),
  (167, ⟨TypeDesc.func #[5] #[166] false, .nilFunc, 1, 8⟩),
  (168, ⟨TypeDesc.func #[170] #[3] false, .nilFunc, 1, 8⟩),
  (169, ⟨TypeDesc.struct #[{ name := "below", type := 140, offset := 0, embedded := false, tag := "", pkgPath := "", byteOffset := 0 }, { name := "signs", type := 48, offset := 1, embedded := false, tag := "", pkgPath := "", byteOffset := 8 }, { name := "kinds", type := 55, offset := 2, embedded := false, tag := "", pkgPath := "", byteOffset := 32 }], .agg ⟨[.nilFunc, .slice none 0 0, .slice none 0 0]⟩, 3, 56⟩),
  (170, ⟨TypeDesc.struct #[{ name := "below", type := 140, offset := 0, embedded := false, tag := "", pkgPath := "", byteOffset := 0 }, { name := "signs", type := 48, offset := 1, embedded := false, tag := "", pkgPath := "", byteOffset := 8 }, { name := "kinds", type := 55, offset := 2, embedded := false, tag := "", pkgPath := "", byteOffset := 32 }], .agg ⟨[.nilFunc, .slice none 0 0, .slice none 0 0]⟩, 3, 56⟩),
  (171, ⟨TypeDesc.func #[9, 9, 3, 3, 144] #[144] false, .nilFunc, 1, 8⟩),
  (172, ⟨TypeDesc.func #[2, 3] #[9] false, .nilFunc, 1, 8⟩),
  (173, ⟨TypeDesc.func #[9] #[] false, .nilFunc, 1, 8⟩),
  (174, ⟨TypeDesc.func #[9, 9, 9] #[9] false, .nilFunc, 1, 8⟩),
  (175, ⟨TypeDesc.func #[3, 3] #[] false, .nilFunc, 1, 8⟩),
  (177, ⟨TypeDesc.func #[3] #[9, 3] false, .nilFunc, 1, 8⟩),
  (178, ⟨TypeDesc.func #[9, 3] #[9] false, .nilFunc, 1, 8⟩),
  (179, ⟨TypeDesc.func #[] #[131, 4] false, .nilFunc, 1, 8⟩),
  (180, ⟨TypeDesc.func #[48, 9] #[3] false, .nilFunc, 1, 8⟩),
  (181, ⟨TypeDesc.int IntKind.i64, .int .i64 0, 1, 8⟩),
  (183, ⟨TypeDesc.func #[9, 3, 3] #[2, 144] false, .nilFunc, 1, 8⟩),
  (184, ⟨TypeDesc.pointer 205, .pointer none, 1, 8⟩),
  (185, ⟨TypeDesc.func #[9, 9] #[184] false, .nilFunc, 1, 8⟩),
  (186, ⟨TypeDesc.func #[9, 9, 3] #[184] false, .nilFunc, 1, 8⟩),
  (187, ⟨TypeDesc.array 24 5, .agg ⟨[.int .u8 0, .int .u8 0, .int .u8 0, .int .u8 0, .int .u8 0, .int .u8 0, .int .u8 0, .int .u8 0, .int .u8 0, .int .u8 0, .int .u8 0, .int .u8 0, .int .u8 0, .int .u8 0, .int .u8 0, .int .u8 0, .int .u8 0, .int .u8 0, .int .u8 0, .int .u8 0, .int .u8 0, .int .u8 0, .int .u8 0, .int .u8 0]⟩, 24, 24⟩),
  (188, ⟨TypeDesc.func #[108] #[3] false, .nilFunc, 1, 8⟩),
  (189, ⟨TypeDesc.func #[22, 108] #[] false, .nilFunc, 1, 8⟩),
  (191, ⟨TypeDesc.func #[22, 108, 3, 4, 4] #[22, 9] false, .nilFunc, 1, 8⟩),
  (192, ⟨TypeDesc.pointer 194, .pointer none, 1, 8⟩),
  (193, ⟨TypeDesc.struct #[{ name := "s", type := 9, offset := 0, embedded := false, tag := "", pkgPath := "", byteOffset := 0 }], .agg ⟨[.string ⟨⟨[]⟩⟩]⟩, 1, 16⟩),
  (194, ⟨TypeDesc.struct #[{ name := "s", type := 9, offset := 0, embedded := false, tag := "", pkgPath := "", byteOffset := 0 }], .agg ⟨[.string ⟨⟨[]⟩⟩]⟩, 1, 16⟩),
  (196, ⟨TypeDesc.func #[9, 9] #[9, 9, 4] false, .nilFunc, 1, 8⟩),
  (197, ⟨TypeDesc.func #[9, 9, 9, 3] #[9] false, .nilFunc, 1, 8⟩),
  (198, ⟨TypeDesc.func #[4] #[9] false, .nilFunc, 1, 8⟩),
  (199, ⟨TypeDesc.func #[54] #[3] false, .nilFunc, 1, 8⟩),
  (200, ⟨TypeDesc.func #[9] #[3] false, .nilFunc, 1, 8⟩),
  (201, ⟨TypeDesc.func #[9, 9] #[4] false, .nilFunc, 1, 8⟩),
  (203, ⟨TypeDesc.func #[9, 3, 3] #[108, 144] false, .nilFunc, 1, 8⟩),
  (204, ⟨TypeDesc.struct #[{ name := "Func", type := 9, offset := 0, embedded := false, tag := "", pkgPath := "", byteOffset := 0 }, { name := "Num", type := 9, offset := 1, embedded := false, tag := "", pkgPath := "", byteOffset := 16 }, { name := "Err", type := 144, offset := 2, embedded := false, tag := "", pkgPath := "", byteOffset := 32 }], .agg ⟨[.string ⟨⟨[]⟩⟩, .string ⟨⟨[]⟩⟩, .nilIface]⟩, 3, 48⟩),
  (205, ⟨TypeDesc.struct #[{ name := "Func", type := 9, offset := 0, embedded := false, tag := "", pkgPath := "", byteOffset := 0 }, { name := "Num", type := 9, offset := 1, embedded := false, tag := "", pkgPath := "", byteOffset := 16 }, { name := "Err", type := 144, offset := 2, embedded := false, tag := "", pkgPath := "", byteOffset := 32 }], .agg ⟨[.string ⟨⟨[]⟩⟩, .string ⟨⟨[]⟩⟩, .nilIface]⟩, 3, 48⟩),
  (206, ⟨TypeDesc.func #[9] #[144] false, .nilFunc, 1, 8⟩),
  (207, ⟨TypeDesc.func #[4] #[3] false, .nilFunc, 1, 8⟩),
  (208, ⟨TypeDesc.array 20 108, .agg ⟨[.int .u64 0, .int .u64 0, .int .u64 0, .int .u64 0, .int .u64 0, .int .u64 0, .int .u64 0, .int .u64 0, .int .u64 0, .int .u64 0, .int .u64 0, .int .u64 0, .int .u64 0, .int .u64 0, .int .u64 0, .int .u64 0, .int .u64 0, .int .u64 0, .int .u64 0, .int .u64 0]⟩, 20, 160⟩),
  (209, ⟨TypeDesc.int IntKind.u32, .int .u32 0, 1, 4⟩),
  (210, ⟨TypeDesc.array 65 5, .agg ⟨[.int .u8 0, .int .u8 0, .int .u8 0, .int .u8 0, .int .u8 0, .int .u8 0, .int .u8 0, .int .u8 0, .int .u8 0, .int .u8 0, .int .u8 0, .int .u8 0, .int .u8 0, .int .u8 0, .int .u8 0, .int .u8 0, .int .u8 0, .int .u8 0, .int .u8 0, .int .u8 0, .int .u8 0, .int .u8 0, .int .u8 0, .int .u8 0, .int .u8 0, .int .u8 0, .int .u8 0, .int .u8 0, .int .u8 0, .int .u8 0, .int .u8 0, .int .u8 0, .int .u8 0, .int .u8 0, .int .u8 0, .int .u8 0, .int .u8 0, .int .u8 0, .int .u8 0, .int .u8 0, .int .u8 0, .int .u8 0, .int .u8 0, .int .u8 0, .int .u8 0, .int .u8 0, .int .u8 0, .int .u8 0, .int .u8 0, .int .u8 0, .int .u8 0, .int .u8 0, .int .u8 0, .int .u8 0, .int .u8 0, .int .u8 0, .int .u8 0, .int .u8 0, .int .u8 0, .int .u8 0, .int .u8 0, .int .u8 0, .int .u8 0, .int .u8 0, .int .u8 0]⟩, 65, 65⟩),
  (211, ⟨TypeDesc.func #[3] #[4] false, .nilFunc, 1, 8⟩),
  (212, ⟨TypeDesc.func #[100] #[3] false, .nilFunc, 1, 8⟩),
  (214, ⟨TypeDesc.func #[9, 9] #[9, 4] false, .nilFunc, 1, 8⟩),
  (215, ⟨TypeDesc.func #[9, 9] #[3] false, .nilFunc, 1, 8⟩),
  (216, ⟨TypeDesc.pointer 218, .pointer none, 1, 8⟩),
  (217, ⟨TypeDesc.struct #[{ name := "addr", type := 216, offset := 0, embedded := false, tag := "", pkgPath := "", byteOffset := 0 }, { name := "buf", type := 22, offset := 1, embedded := false, tag := "", pkgPath := "", byteOffset := 8 }], .agg ⟨[.pointer none, .slice none 0 0]⟩, 2, 32⟩),
  (218, ⟨TypeDesc.struct #[{ name := "addr", type := 216, offset := 0, embedded := false, tag := "", pkgPath := "", byteOffset := 0 }, { name := "buf", type := 22, offset := 1, embedded := false, tag := "", pkgPath := "", byteOffset := 8 }], .agg ⟨[.pointer none, .slice none 0 0]⟩, 2, 32⟩),
  (220, ⟨TypeDesc.func #[9] #[21, 3] false, .nilFunc, 1, 8⟩),
  (221, ⟨TypeDesc.func #[] #[9] false, .nilFunc, 1, 8⟩),
  (222, ⟨TypeDesc.func #[5] #[5] false, .nilFunc, 1, 8⟩),
  (223, ⟨TypeDesc.pointer 5, .pointer none, 1, 8⟩),
  (224, ⟨TypeDesc.pointer 226, .pointer none, 1, 8⟩),
  (225, ⟨TypeDesc.struct #[{ name := "s", type := 9, offset := 0, embedded := false, tag := "", pkgPath := "", byteOffset := 0 }], .agg ⟨[.string ⟨⟨[]⟩⟩]⟩, 1, 16⟩),
  (226, ⟨TypeDesc.struct #[{ name := "s", type := 9, offset := 0, embedded := false, tag := "", pkgPath := "", byteOffset := 0 }], .agg ⟨[.string ⟨⟨[]⟩⟩]⟩, 1, 16⟩),
  (227, ⟨TypeDesc.func #[209] #[3] false, .nilFunc, 1, 8⟩),
  (228, ⟨TypeDesc.func #[9, 5] #[3] false, .nilFunc, 1, 8⟩),
  (229, ⟨TypeDesc.array 32 5, .agg ⟨[.int .u8 0, .int .u8 0, .int .u8 0, .int .u8 0, .int .u8 0, .int .u8 0, .int .u8 0, .int .u8 0, .int .u8 0, .int .u8 0, .int .u8 0, .int .u8 0, .int .u8 0, .int .u8 0, .int .u8 0, .int .u8 0, .int .u8 0, .int .u8 0, .int .u8 0, .int .u8 0, .int .u8 0, .int .u8 0, .int .u8 0, .int .u8 0, .int .u8 0, .int .u8 0, .int .u8 0, .int .u8 0, .int .u8 0, .int .u8 0, .int .u8 0, .int .u8 0]⟩, 32, 32⟩),
  (230, ⟨TypeDesc.array 64 5, .agg ⟨[.int .u8 0, .int .u8 0, .int .u8 0, .int .u8 0, .int .u8 0, .int .u8 0, .int .u8 0, .int .u8 0, .int .u8 0, .int .u8 0, .int .u8 0, .int .u8 0, .int .u8 0, .int .u8 0, .int .u8 0, .int .u8 0, .int .u8 0, .int .u8 0, .int .u8 0, .int .u8 0, .int .u8 0, .int .u8 0, .int .u8 0, .int .u8 0, .int .u8 0, .int .u8 0, .int .u8 0, .int .u8 0, .int .u8 0, .int .u8 0, .int .u8 0, .int .u8 0, .int .u8 0, .int .u8 0, .int .u8 0, .int .u8 0, .int .u8 0, .int .u8 0, .int .u8 0, .int .u8 0, .int .u8 0, .int .u8 0, .int .u8 0, .int .u8 0, .int .u8 0, .int .u8 0, .int .u8 0, .int .u8 0, .int .u8 0, .int .u8 0, .int .u8 0, .int .u8 0, .int .u8 0, .int .u8 0, .int .u8 0, .int .u8 0, .int .u8 0, .int .u8 0, .int .u8 0, .int .u8 0, .int .u8 0, .int .u8 0, .int .u8 0, .int .u8 0]⟩, 64, 64⟩),
  (233, ⟨TypeDesc.func #[3] #[22] false, .nilFunc, 1, 8⟩),
  (234, ⟨TypeDesc.array 256 5, .agg ⟨[.int .u8 0, .int .u8 0, .int .u8 0, .int .u8 0, .int .u8 0, .int .u8 0, .int .u8 0, .int .u8 0, .int .u8 0, .int .u8 0, .int .u8 0, .int .u8 0, .int .u8 0, .int .u8 0, .int .u8 0, .int .u8 0, .int .u8 0, .int .u8 0, .int .u8 0, .int .u8 0, .int .u8 0, .int .u8 0, .int .u8 0, .int .u8 0, .int .u8 0, .int .u8 0, .int .u8 0, .int .u8 0, .int .u8 0, .int .u8 0, .int .u8 0, .int .u8 0, .int .u8 0, .int .u8 0, .int .u8 0, .int .u8 0, .int .u8 0, .int .u8 0, .int .u8 0, .int .u8 0, .int .u8 0, .int .u8 0, .int .u8 0, .int .u8 0, .int .u8 0, .int .u8 0, .int .u8 0, .int .u8 0, .int .u8 0, .int .u8 0, .int .u8 0, .int .u8 0, .int .u8 0, .int .u8 0, .int .u8 0, .int .u8 0, .int .u8 0, .int .u8 0, .int .u8 0, .int .u8 0, .int .u8 0, .int .u8 0, .int .u8 0, .int .u8 0, .int .u8 0, .int .u8 0, .int .u8 0, .int .u8 0, .int .u8 0, .int .u8 0, .int .u8 0, .int .u8 0, .int .u8 0, .int .u8 0, .int .u8 0, .int .u8 0, .int .u8 0, .int .u8 0, .int .u8 0, .int .u8 0, .int .u8 0, .int .u8 0, .int .u8 0, .int .u8 0, .int .u8 0, .int .u8 0, .int .u8 0, .int .u8 0, .int .u8 0, .int .u8 0, .int .u8 0, .int .u8 0, .int .u8 0, .int .u8 0, .int .u8 0, .int .u8 0, .int .u8 0, .int .u8 0, .int .u8 0, .int .u8 0, .int .u8 0, .int .u8 0, .int .u8 0, .int .u8 0, .int .u8 0, .int .u8 0, .int .u8 0, .int .u8 0, .int .u8 0, .int .u8 0, .int .u8 0, .int .u8 0, .int .u8 0, .int .u8 0, .int .u8 0, .int .u8 0, .int .u8 0, .int .u8 0, .int .u8 0, .int .u8 0, .int .u8 0, .int .u8 0, .int .u8 0, .int .u8 0, .int .u8 0, .int .u8 0, .int .u8 0, .int .u8 0, .int .u8 0, .int .u8 0, .int .u8 0, .int .u8 0, .int .u8 0, .int .u8 0, .int .u8 0, .int .u8 0, .int .u8 0, .int .u8 0, .int .u8 0, .int .u8 0, .int .u8 0, .int .u8 0, .int .u8 0, .int .u8 0, .int .u8 0, .int .u8 0, .int .u8 0, .int .u8 0, .int .u8 0, .int .u8 0, .int .u8 0, .int .u8 0, .int .u8 0, .int .u8 0, .int .u8 0, .int .u8 0, .int .u8 0, .int .u8 0, .int .u8 0, .int .u8 0, .int .u8 0, .int .u8 0, .int .u8 0, .int .u8 0, .int .u8 0, .int .u8 0, .int .u8 0, .int .u8 0, .int .u8 0, .int .u8 0, .int .u8 0, .int .u8 0, .int .u8 0, .int .u8 0, .int .u8 0, .int .u8 0, .int .u8 0, .int .u8 0, .int .u8 0, .int .u8 0, .int .u8 0, .int .u8 0, .int .u8 0, .int .u8 0, .int .u8 0, .int .u8 0, .int .u8 0, .int .u8 0, .int .u8 0, .int .u8 0, .int .u8 0, .int .u8 0, .int .u8 0, .int .u8 0, .int .u8 0, .int .u8 0, .int .u8 0, .int .u8 0, .int .u8 0, .int .u8 0, .int .u8 0, .int .u8 0, .int .u8 0, .int .u8 0, .int .u8 0, .int .u8 0, .int .u8 0, .int .u8 0, .int .u8 0, .int .u8 0, .int .u8 0, .int .u8 0, .int .u8 0, .int .u8 0, .int .u8 0, .int .u8 0, .int .u8 0, .int .u8 0, .int .u8 0, .int .u8 0, .int .u8 0, .int .u8 0, .int .u8 0, .int .u8 0, .int .u8 0, .int .u8 0, .int .u8 0, .int .u8 0, .int .u8 0, .int .u8 0, .int .u8 0, .int .u8 0, .int .u8 0, .int .u8 0, .int .u8 0, .int .u8 0, .int .u8 0, .int .u8 0, .int .u8 0, .int .u8 0, .int .u8 0, .int .u8 0, .int .u8 0, .int .u8 0, .int .u8 0, .int .u8 0, .int .u8 0, .int .u8 0, .int .u8 0, .int .u8 0, .int .u8 0, .int .u8 0, .int .u8 0, .int .u8 0, .int .u8 0, .int .u8 0]⟩, 256, 256⟩),
  (235, ⟨TypeDesc.struct #[{ name := "lo", type := 5, offset := 0, embedded := false, tag := "", pkgPath := "", byteOffset := 0 }, { name := "hi", type := 5, offset := 1, embedded := false, tag := "", pkgPath := "", byteOffset := 1 }], .agg ⟨[.int .u8 0, .int .u8 0]⟩, 2, 2⟩),
  (236, ⟨TypeDesc.struct #[{ name := "lo", type := 5, offset := 0, embedded := false, tag := "", pkgPath := "", byteOffset := 0 }, { name := "hi", type := 5, offset := 1, embedded := false, tag := "", pkgPath := "", byteOffset := 1 }], .agg ⟨[.int .u8 0, .int .u8 0]⟩, 2, 2⟩),
  (237, ⟨TypeDesc.array 16 236, .agg ⟨[.int .u8 0, .int .u8 0, .int .u8 0, .int .u8 0, .int .u8 0, .int .u8 0, .int .u8 0, .int .u8 0, .int .u8 0, .int .u8 0, .int .u8 0, .int .u8 0, .int .u8 0, .int .u8 0, .int .u8 0, .int .u8 0, .int .u8 0, .int .u8 0, .int .u8 0, .int .u8 0, .int .u8 0, .int .u8 0, .int .u8 0, .int .u8 0, .int .u8 0, .int .u8 0, .int .u8 0, .int .u8 0, .int .u8 0, .int .u8 0, .int .u8 0, .int .u8 0]⟩, 32, 32⟩),
  (239, ⟨TypeDesc.func #[9] #[209, 209] false, .nilFunc, 1, 8⟩)]
theorem ty1 : TyOk Tryz.prog 1 ⟨TypeDesc.func #[] #[] false, .nilFunc, 1, 8⟩ := TyOk.mk' Tryz.underlying1 (by kernel_rfl) (by kernel_rfl)
theorem ty2 : TyOk Tryz.prog 2 ⟨TypeDesc.int IntKind.i64, .int .i64 0, 1, 8⟩ := TyOk.mk' Tryz.underlying2 (by kernel_rfl) (by kernel_rfl)
theorem ty3 : TyOk Tryz.prog 3 ⟨TypeDesc.int IntKind.i64, .int .i64 0, 1, 8⟩ := TyOk.mk' Tryz.underlying3 (by kernel_rfl) (by kernel_rfl)
theorem ty4 : TyOk Tryz.prog 4 ⟨TypeDesc.bool, .bool false, 1, 1⟩ := TyOk.mk' Tryz.underlying4 (by kernel_rfl) (by kernel_rfl)
theorem ty5 : TyOk Tryz.prog 5 ⟨TypeDesc.int IntKind.u8, .int .u8 0, 1, 1⟩ := TyOk.mk' Tryz.underlying5 (by kernel_rfl) (by kernel_rfl)
theorem ty9 : TyOk Tryz.prog 9 ⟨TypeDesc.string, .string ⟨⟨[]⟩⟩, 1, 16⟩ := TyOk.mk' Tryz.underlying9 (by kernel_rfl) (by kernel_rfl)
theorem ty12 : TyOk Tryz.prog 12 ⟨TypeDesc.int IntKind.u64, .int .u64 0, 1, 8⟩ := TyOk.mk' Tryz.underlying12 (by kernel_rfl) (by kernel_rfl)
theorem ty13 : TyOk Tryz.prog 13 ⟨TypeDesc.struct #[{ name := "msg", type := 9, offset := 0, embedded := false, tag := "", pkgPath := "", byteOffset := 0 }, { name := "addr", type := 12, offset := 1, embedded := false, tag := "", pkgPath := "", byteOffset := 16 }], .agg ⟨[.string ⟨⟨[]⟩⟩, .int .u64 0]⟩, 2, 24⟩ := TyOk.mk' Tryz.underlying13 (by kernel_rfl) (by kernel_rfl)
theorem ty20 : TyOk Tryz.prog 20 ⟨TypeDesc.interface #[], .nilIface, 1, 16⟩ := TyOk.mk' Tryz.underlying20 (by kernel_rfl) (by kernel_rfl)
theorem ty21 : TyOk Tryz.prog 21 ⟨TypeDesc.int IntKind.i32, .int .i32 0, 1, 4⟩ := TyOk.mk' Tryz.underlying21 (by kernel_rfl) (by kernel_rfl)
theorem ty22 : TyOk Tryz.prog 22 ⟨TypeDesc.slice 5, .slice none 0 0, 1, 24⟩ := TyOk.mk' Tryz.underlying22 (by kernel_rfl) (by kernel_rfl)
theorem ty23 : TyOk Tryz.prog 23 ⟨TypeDesc.func #[] #[4] false, .nilFunc, 1, 8⟩ := TyOk.mk' Tryz.underlying23 (by kernel_rfl) (by kernel_rfl)
theorem ty24 : TyOk Tryz.prog 24 ⟨TypeDesc.slice 47, .slice none 0 0, 1, 24⟩ := TyOk.mk' Tryz.underlying24 (by kernel_rfl) (by kernel_rfl)
theorem ty25 : TyOk Tryz.prog 25 ⟨TypeDesc.struct #[{ name := "Sheets", type := 24, offset := 0, embedded := false, tag := "", pkgPath := "", byteOffset := 0 }], .agg ⟨[.slice none 0 0]⟩, 1, 24⟩ := TyOk.mk' Tryz.underlying25 (by kernel_rfl) (by kernel_rfl)
theorem ty26 : TyOk Tryz.prog 26 ⟨TypeDesc.struct #[{ name := "Sheets", type := 24, offset := 0, embedded := false, tag := "", pkgPath := "", byteOffset := 0 }], .agg ⟨[.slice none 0 0]⟩, 1, 24⟩ := TyOk.mk' Tryz.underlying26 (by kernel_rfl) (by kernel_rfl)
theorem ty27 : TyOk Tryz.prog 27 ⟨TypeDesc.func #[22, 5] #[26] false, .nilFunc, 1, 8⟩ := TyOk.mk' Tryz.underlying27 (by kernel_rfl) (by kernel_rfl)
theorem ty28 : TyOk Tryz.prog 28 ⟨TypeDesc.struct #[{ name := "Sheet", type := 9, offset := 0, embedded := false, tag := "", pkgPath := "", byteOffset := 0 }, { name := "Row", type := 3, offset := 1, embedded := false, tag := "", pkgPath := "", byteOffset := 16 }, { name := "Col", type := 3, offset := 2, embedded := false, tag := "", pkgPath := "", byteOffset := 24 }], .agg ⟨[.string ⟨⟨[]⟩⟩, .int .i64 0, .int .i64 0]⟩, 3, 32⟩ := TyOk.mk' Tryz.underlying28 (by kernel_rfl) (by kernel_rfl)
theorem ty29 : TyOk Tryz.prog 29 ⟨TypeDesc.struct #[{ name := "Sheet", type := 9, offset := 0, embedded := false, tag := "", pkgPath := "", byteOffset := 0 }, { name := "Row", type := 3, offset := 1, embedded := false, tag := "", pkgPath := "", byteOffset := 16 }, { name := "Col", type := 3, offset := 2, embedded := false, tag := "", pkgPath := "", byteOffset := 24 }], .agg ⟨[.string ⟨⟨[]⟩⟩, .int .i64 0, .int .i64 0]⟩, 3, 32⟩ := TyOk.mk' Tryz.underlying29 (by kernel_rfl) (by kernel_rfl)
theorem ty30 : TyOk Tryz.prog 30 ⟨TypeDesc.int IntKind.i64, .int .i64 0, 1, 8⟩ := TyOk.mk' Tryz.underlying30 (by kernel_rfl) (by kernel_rfl)
theorem ty32 : TyOk Tryz.prog 32 ⟨TypeDesc.func #[26, 29, 9] #[26, 30] false, .nilFunc, 1, 8⟩ := TyOk.mk' Tryz.underlying32 (by kernel_rfl) (by kernel_rfl)
theorem ty33 : TyOk Tryz.prog 33 ⟨TypeDesc.func #[3] #[9] false, .nilFunc, 1, 8⟩ := TyOk.mk' Tryz.underlying33 (by kernel_rfl) (by kernel_rfl)
theorem ty35 : TyOk Tryz.prog 35 ⟨TypeDesc.func #[26, 29, 9] #[26, 3] false, .nilFunc, 1, 8⟩ := TyOk.mk' Tryz.underlying35 (by kernel_rfl) (by kernel_rfl)
theorem ty36 : TyOk Tryz.prog 36 ⟨TypeDesc.func #[26] #[4] false, .nilFunc, 1, 8⟩ := TyOk.mk' Tryz.underlying36 (by kernel_rfl) (by kernel_rfl)
theorem ty37 : TyOk Tryz.prog 37 ⟨TypeDesc.func #[26, 29] #[9] false, .nilFunc, 1, 8⟩ := TyOk.mk' Tryz.underlying37 (by kernel_rfl) (by kernel_rfl)
theorem ty38 : TyOk Tryz.prog 38 ⟨TypeDesc.func #[26, 26] #[4] false, .nilFunc, 1, 8⟩ := TyOk.mk' Tryz.underlying38 (by kernel_rfl) (by kernel_rfl)
theorem ty39 : TyOk Tryz.prog 39 ⟨TypeDesc.func #[30] #[3] false, .nilFunc, 1, 8⟩ := TyOk.mk' Tryz.underlying39 (by kernel_rfl) (by kernel_rfl)
theorem ty40 : TyOk Tryz.prog 40 ⟨TypeDesc.func #[22, 5, 5, 5, 5, 5] #[4] false, .nilFunc, 1, 8⟩ := TyOk.mk' Tryz.underlying40 (by kernel_rfl) (by kernel_rfl)
theorem ty41 : TyOk Tryz.prog 41 ⟨TypeDesc.slice 29, .slice none 0 0, 1, 24⟩ := TyOk.mk' Tryz.underlying41 (by kernel_rfl) (by kernel_rfl)
theorem ty42 : TyOk Tryz.prog 42 ⟨TypeDesc.func #[26] #[41] false, .nilFunc, 1, 8⟩ := TyOk.mk' Tryz.underlying42 (by kernel_rfl) (by kernel_rfl)
theorem ty43 : TyOk Tryz.prog 43 ⟨TypeDesc.func #[26] #[26] false, .nilFunc, 1, 8⟩ := TyOk.mk' Tryz.underlying43 (by kernel_rfl) (by kernel_rfl)
theorem ty44 : TyOk Tryz.prog 44 ⟨TypeDesc.func #[22, 5, 5, 5] #[4] false, .nilFunc, 1, 8⟩ := TyOk.mk' Tryz.underlying44 (by kernel_rfl) (by kernel_rfl)
theorem ty45 : TyOk Tryz.prog 45 ⟨TypeDesc.slice 48, .slice none 0 0, 1, 24⟩ := TyOk.mk' Tryz.underlying45 (by kernel_rfl) (by kernel_rfl)
theorem ty46 : TyOk Tryz.prog 46 ⟨TypeDesc.struct #[{ name := "Name", type := 9, offset := 0, embedded := false, tag := "", pkgPath := "", byteOffset := 0 }, { name := "Cols", type := 3, offset := 1, embedded := false, tag := "", pkgPath := "", byteOffset := 16 }, { name := "Rows", type := 45, offset := 2, embedded := false, tag := "", pkgPath := "", byteOffset := 24 }], .agg ⟨[.string ⟨⟨[]⟩⟩, .int .i64 0, .slice none 0 0]⟩, 3, 48⟩ := TyOk.mk' Tryz.underlying46 (by kernel_rfl) (by kernel_rfl)
theorem ty47 : TyOk Tryz.prog 47 ⟨TypeDesc.struct #[{ name := "Name", type := 9, offset := 0, embedded := false, tag := "", pkgPath := "", byteOffset := 0 }, { name := "Cols", type := 3, offset := 1, embedded := false, tag := "", pkgPath := "", byteOffset := 16 }, { name := "Rows", type := 45, offset := 2, embedded := false, tag := "", pkgPath := "", byteOffset := 24 }], .agg ⟨[.string ⟨⟨[]⟩⟩, .int .i64 0, .slice none 0 0]⟩, 3, 48⟩ := TyOk.mk' Tryz.underlying47 (by kernel_rfl) (by kernel_rfl)
theorem ty48 : TyOk Tryz.prog 48 ⟨TypeDesc.slice 9, .slice none 0 0, 1, 24⟩ := TyOk.mk' Tryz.underlying48 (by kernel_rfl) (by kernel_rfl)
theorem ty49 : TyOk Tryz.prog 49 ⟨TypeDesc.func #[22, 5] #[4] false, .nilFunc, 1, 8⟩ := TyOk.mk' Tryz.underlying49 (by kernel_rfl) (by kernel_rfl)
theorem ty50 : TyOk Tryz.prog 50 ⟨TypeDesc.slice 57, .slice none 0 0, 1, 24⟩ := TyOk.mk' Tryz.underlying50 (by kernel_rfl) (by kernel_rfl)
theorem ty51 : TyOk Tryz.prog 51 ⟨TypeDesc.slice 71, .slice none 0 0, 1, 24⟩ := TyOk.mk' Tryz.underlying51 (by kernel_rfl) (by kernel_rfl)
theorem ty52 : TyOk Tryz.prog 52 ⟨TypeDesc.func #[51] #[4] false, .nilFunc, 1, 8⟩ := TyOk.mk' Tryz.underlying52 (by kernel_rfl) (by kernel_rfl)
theorem ty53 : TyOk Tryz.prog 53 ⟨TypeDesc.struct #[{ name := "Sheet", type := 9, offset := 0, embedded := false, tag := "", pkgPath := "", byteOffset := 0 }, { name := "Col", type := 3, offset := 1, embedded := false, tag := "", pkgPath := "", byteOffset := 16 }, { name := "Row", type := 3, offset := 2, embedded := false, tag := "", pkgPath := "", byteOffset := 24 }, { name := "AbsCol", type := 4, offset := 3, embedded := false, tag := "", pkgPath := "", byteOffset := 32 }, { name := "AbsRow", type := 4, offset := 4, embedded := false, tag := "", pkgPath := "", byteOffset := 33 }], .agg ⟨[.string ⟨⟨[]⟩⟩, .int .i64 0, .int .i64 0, .bool false, .bool false]⟩, 5, 40⟩ := TyOk.mk' Tryz.underlying53 (by kernel_rfl) (by kernel_rfl)
theorem ty54 : TyOk Tryz.prog 54 ⟨TypeDesc.struct #[{ name := "Sheet", type := 9, offset := 0, embedded := false, tag := "", pkgPath := "", byteOffset := 0 }, { name := "Col", type := 3, offset := 1, embedded := false, tag := "", pkgPath := "", byteOffset := 16 }, { name := "Row", type := 3, offset := 2, embedded := false, tag := "", pkgPath := "", byteOffset := 24 }, { name := "AbsCol", type := 4, offset := 3, embedded := false, tag := "", pkgPath := "", byteOffset := 32 }, { name := "AbsRow", type := 4, offset := 4, embedded := false, tag := "", pkgPath := "", byteOffset := 33 }], .agg ⟨[.string ⟨⟨[]⟩⟩, .int .i64 0, .int .i64 0, .bool false, .bool false]⟩, 5, 40⟩ := TyOk.mk' Tryz.underlying54 (by kernel_rfl) (by kernel_rfl)
theorem ty55 : TyOk Tryz.prog 55 ⟨TypeDesc.slice 3, .slice none 0 0, 1, 24⟩ := TyOk.mk' Tryz.underlying55 (by kernel_rfl) (by kernel_rfl)
theorem ty56 : TyOk Tryz.prog 56 ⟨TypeDesc.struct #[{ name := "Kind", type := 3, offset := 0, embedded := false, tag := "", pkgPath := "", byteOffset := 0 }, { name := "Num", type := 3, offset := 1, embedded := false, tag := "", pkgPath := "", byteOffset := 8 }, { name := "Text", type := 9, offset := 2, embedded := false, tag := "", pkgPath := "", byteOffset := 16 }, { name := "Ref", type := 54, offset := 3, embedded := false, tag := "", pkgPath := "", byteOffset := 32 }, { name := "To", type := 54, offset := 8, embedded := false, tag := "", pkgPath := "", byteOffset := 72 }, { name := "Kids", type := 55, offset := 13, embedded := false, tag := "", pkgPath := "", byteOffset := 112 }], .agg ⟨[.int .i64 0, .int .i64 0, .string ⟨⟨[]⟩⟩, .string ⟨⟨[]⟩⟩, .int .i64 0, .int .i64 0, .bool false, .bool false, .string ⟨⟨[]⟩⟩, .int .i64 0, .int .i64 0, .bool false, .bool false, .slice none 0 0]⟩, 14, 136⟩ := TyOk.mk' Tryz.underlying56 (by kernel_rfl) (by kernel_rfl)
theorem ty57 : TyOk Tryz.prog 57 ⟨TypeDesc.struct #[{ name := "Kind", type := 3, offset := 0, embedded := false, tag := "", pkgPath := "", byteOffset := 0 }, { name := "Num", type := 3, offset := 1, embedded := false, tag := "", pkgPath := "", byteOffset := 8 }, { name := "Text", type := 9, offset := 2, embedded := false, tag := "", pkgPath := "", byteOffset := 16 }, { name := "Ref", type := 54, offset := 3, embedded := false, tag := "", pkgPath := "", byteOffset := 32 }, { name := "To", type := 54, offset := 8, embedded := false, tag := "", pkgPath := "", byteOffset := 72 }, { name := "Kids", type := 55, offset := 13, embedded := false, tag := "", pkgPath := "", byteOffset := 112 }], .agg ⟨[.int .i64 0, .int .i64 0, .string ⟨⟨[]⟩⟩, .string ⟨⟨[]⟩⟩, .int .i64 0, .int .i64 0, .bool false, .bool false, .string ⟨⟨[]⟩⟩, .int .i64 0, .int .i64 0, .bool false, .bool false, .slice none 0 0]⟩, 14, 136⟩ := TyOk.mk' Tryz.underlying57 (by kernel_rfl) (by kernel_rfl)
theorem ty58 : TyOk Tryz.prog 58 ⟨TypeDesc.func #[50, 50] #[4] false, .nilFunc, 1, 8⟩ := TyOk.mk' Tryz.underlying58 (by kernel_rfl) (by kernel_rfl)
theorem ty59 : TyOk Tryz.prog 59 ⟨TypeDesc.func #[50, 9, 51] #[50] false, .nilFunc, 1, 8⟩ := TyOk.mk' Tryz.underlying59 (by kernel_rfl) (by kernel_rfl)
theorem ty60 : TyOk Tryz.prog 60 ⟨TypeDesc.func #[9, 9, 51] #[9] false, .nilFunc, 1, 8⟩ := TyOk.mk' Tryz.underlying60 (by kernel_rfl) (by kernel_rfl)
theorem ty61 : TyOk Tryz.prog 61 ⟨TypeDesc.func #[50, 9, 9, 51] #[4] false, .nilFunc, 1, 8⟩ := TyOk.mk' Tryz.underlying61 (by kernel_rfl) (by kernel_rfl)
theorem ty62 : TyOk Tryz.prog 62 ⟨TypeDesc.func #[22] #[50] false, .nilFunc, 1, 8⟩ := TyOk.mk' Tryz.underlying62 (by kernel_rfl) (by kernel_rfl)
theorem ty63 : TyOk Tryz.prog 63 ⟨TypeDesc.func #[22, 5] #[51] false, .nilFunc, 1, 8⟩ := TyOk.mk' Tryz.underlying63 (by kernel_rfl) (by kernel_rfl)
theorem ty64 : TyOk Tryz.prog 64 ⟨TypeDesc.func #[50] #[9] false, .nilFunc, 1, 8⟩ := TyOk.mk' Tryz.underlying64 (by kernel_rfl) (by kernel_rfl)
theorem ty65 : TyOk Tryz.prog 65 ⟨TypeDesc.func #[22, 22, 5] #[4] false, .nilFunc, 1, 8⟩ := TyOk.mk' Tryz.underlying65 (by kernel_rfl) (by kernel_rfl)
theorem ty66 : TyOk Tryz.prog 66 ⟨TypeDesc.func #[9] #[4] false, .nilFunc, 1, 8⟩ := TyOk.mk' Tryz.underlying66 (by kernel_rfl) (by kernel_rfl)
theorem ty67 : TyOk Tryz.prog 67 ⟨TypeDesc.struct #[{ name := "To", type := 55, offset := 0, embedded := false, tag := "", pkgPath := "", byteOffset := 0 }, { name := "New", type := 3, offset := 1, embedded := false, tag := "", pkgPath := "", byteOffset := 24 }], .agg ⟨[.slice none 0 0, .int .i64 0]⟩, 2, 32⟩ := TyOk.mk' Tryz.underlying67 (by kernel_rfl) (by kernel_rfl)
theorem ty68 : TyOk Tryz.prog 68 ⟨TypeDesc.struct #[{ name := "To", type := 55, offset := 0, embedded := false, tag := "", pkgPath := "", byteOffset := 0 }, { name := "New", type := 3, offset := 1, embedded := false, tag := "", pkgPath := "", byteOffset := 24 }], .agg ⟨[.slice none 0 0, .int .i64 0]⟩, 2, 32⟩ := TyOk.mk' Tryz.underlying68 (by kernel_rfl) (by kernel_rfl)
theorem ty69 : TyOk Tryz.prog 69 ⟨TypeDesc.func #[3] #[68] false, .nilFunc, 1, 8⟩ := TyOk.mk' Tryz.underlying69 (by kernel_rfl) (by kernel_rfl)
theorem ty70 : TyOk Tryz.prog 70 ⟨TypeDesc.struct #[{ name := "Sheet", type := 9, offset := 0, embedded := false, tag := "", pkgPath := "", byteOffset := 0 }, { name := "Rows", type := 68, offset := 1, embedded := false, tag := "", pkgPath := "", byteOffset := 16 }, { name := "Cols", type := 68, offset := 3, embedded := false, tag := "", pkgPath := "", byteOffset := 48 }, { name := "Gone", type := 4, offset := 5, embedded := false, tag := "", pkgPath := "", byteOffset := 80 }], .agg ⟨[.string ⟨⟨[]⟩⟩, .slice none 0 0, .int .i64 0, .slice none 0 0, .int .i64 0, .bool false]⟩, 6, 88⟩ := TyOk.mk' Tryz.underlying70 (by kernel_rfl) (by kernel_rfl)
theorem ty71 : TyOk Tryz.prog 71 ⟨TypeDesc.struct #[{ name := "Sheet", type := 9, offset := 0, embedded := false, tag := "", pkgPath := "", byteOffset := 0 }, { name := "Rows", type := 68, offset := 1, embedded := false, tag := "", pkgPath := "", byteOffset := 16 }, { name := "Cols", type := 68, offset := 3, embedded := false, tag := "", pkgPath := "", byteOffset := 48 }, { name := "Gone", type := 4, offset := 5, embedded := false, tag := "", pkgPath := "", byteOffset := 80 }], .agg ⟨[.string ⟨⟨[]⟩⟩, .slice none 0 0, .int .i64 0, .slice none 0 0, .int .i64 0, .bool false]⟩, 6, 88⟩ := TyOk.mk' Tryz.underlying71 (by kernel_rfl) (by kernel_rfl)
theorem ty72 : TyOk Tryz.prog 72 ⟨TypeDesc.func #[3, 3] #[68] false, .nilFunc, 1, 8⟩ := TyOk.mk' Tryz.underlying72 (by kernel_rfl) (by kernel_rfl)
theorem ty73 : TyOk Tryz.prog 73 ⟨TypeDesc.func #[22, 5, 5, 9] #[4] false, .nilFunc, 1, 8⟩ := TyOk.mk' Tryz.underlying73 (by kernel_rfl) (by kernel_rfl)
theorem ty74 : TyOk Tryz.prog 74 ⟨TypeDesc.func #[22] #[68] false, .nilFunc, 1, 8⟩ := TyOk.mk' Tryz.underlying74 (by kernel_rfl) (by kernel_rfl)
theorem ty75 : TyOk Tryz.prog 75 ⟨TypeDesc.func #[68, 3] #[3] false, .nilFunc, 1, 8⟩ := TyOk.mk' Tryz.underlying75 (by kernel_rfl) (by kernel_rfl)
theorem ty76 : TyOk Tryz.prog 76 ⟨TypeDesc.func #[22, 5, 5, 4, 5] #[4] false, .nilFunc, 1, 8⟩ := TyOk.mk' Tryz.underlying76 (by kernel_rfl) (by kernel_rfl)
theorem ty77 : TyOk Tryz.prog 77 ⟨TypeDesc.func #[68, 68] #[68] false, .nilFunc, 1, 8⟩ := TyOk.mk' Tryz.underlying77 (by kernel_rfl) (by kernel_rfl)
theorem ty79 : TyOk Tryz.prog 79 ⟨TypeDesc.func #[26, 29] #[3, 4] false, .nilFunc, 1, 8⟩ := TyOk.mk' Tryz.underlying79 (by kernel_rfl) (by kernel_rfl)
theorem ty80 : TyOk Tryz.prog 80 ⟨TypeDesc.func #[26, 9] #[3] false, .nilFunc, 1, 8⟩ := TyOk.mk' Tryz.underlying80 (by kernel_rfl) (by kernel_rfl)
theorem ty81 : TyOk Tryz.prog 81 ⟨TypeDesc.func #[47, 3, 3] #[4] false, .nilFunc, 1, 8⟩ := TyOk.mk' Tryz.underlying81 (by kernel_rfl) (by kernel_rfl)
theorem ty82 : TyOk Tryz.prog 82 ⟨TypeDesc.func #[47] #[4] false, .nilFunc, 1, 8⟩ := TyOk.mk' Tryz.underlying82 (by kernel_rfl) (by kernel_rfl)
theorem ty83 : TyOk Tryz.prog 83 ⟨TypeDesc.func #[47, 47] #[4] false, .nilFunc, 1, 8⟩ := TyOk.mk' Tryz.underlying83 (by kernel_rfl) (by kernel_rfl)
theorem ty84 : TyOk Tryz.prog 84 ⟨TypeDesc.func #[47] #[47] false, .nilFunc, 1, 8⟩ := TyOk.mk' Tryz.underlying84 (by kernel_rfl) (by kernel_rfl)
theorem ty85 : TyOk Tryz.prog 85 ⟨TypeDesc.func #[24, 24, 83] #[4] false, .nilFunc, 1, 8⟩ := TyOk.mk' Tryz.underlying85 (by kernel_rfl) (by kernel_rfl)
theorem ty86 : TyOk Tryz.prog 86 ⟨TypeDesc.func #[45, 45, 87] #[4] false, .nilFunc, 1, 8⟩ := TyOk.mk' Tryz.underlying86 (by kernel_rfl) (by kernel_rfl)
theorem ty87 : TyOk Tryz.prog 87 ⟨TypeDesc.func #[48, 48] #[4] false, .nilFunc, 1, 8⟩ := TyOk.mk' Tryz.underlying87 (by kernel_rfl) (by kernel_rfl)
theorem ty88 : TyOk Tryz.prog 88 ⟨TypeDesc.func #[24] #[24] false, .nilFunc, 1, 8⟩ := TyOk.mk' Tryz.underlying88 (by kernel_rfl) (by kernel_rfl)
theorem ty89 : TyOk Tryz.prog 89 ⟨TypeDesc.func #[48] #[48] false, .nilFunc, 1, 8⟩ := TyOk.mk' Tryz.underlying89 (by kernel_rfl) (by kernel_rfl)
theorem ty90 : TyOk Tryz.prog 90 ⟨TypeDesc.func #[68] #[4] false, .nilFunc, 1, 8⟩ := TyOk.mk' Tryz.underlying90 (by kernel_rfl) (by kernel_rfl)
theorem ty91 : TyOk Tryz.prog 91 ⟨TypeDesc.func #[55, 55] #[4] false, .nilFunc, 1, 8⟩ := TyOk.mk' Tryz.underlying91 (by kernel_rfl) (by kernel_rfl)
theorem ty92 : TyOk Tryz.prog 92 ⟨TypeDesc.func #[50] #[4] false, .nilFunc, 1, 8⟩ := TyOk.mk' Tryz.underlying92 (by kernel_rfl) (by kernel_rfl)
theorem ty93 : TyOk Tryz.prog 93 ⟨TypeDesc.func #[57] #[57] false, .nilFunc, 1, 8⟩ := TyOk.mk' Tryz.underlying93 (by kernel_rfl) (by kernel_rfl)
theorem ty94 : TyOk Tryz.prog 94 ⟨TypeDesc.struct #[{ name := "own", type := 9, offset := 0, embedded := false, tag := "", pkgPath := "", byteOffset := 0 }, { name := "shifts", type := 51, offset := 1, embedded := false, tag := "", pkgPath := "", byteOffset := 16 }], .agg ⟨[.string ⟨⟨[]⟩⟩, .slice none 0 0]⟩, 2, 40⟩ := TyOk.mk' Tryz.underlying94 (by kernel_rfl) (by kernel_rfl)
theorem ty95 : TyOk Tryz.prog 95 ⟨TypeDesc.struct #[{ name := "own", type := 9, offset := 0, embedded := false, tag := "", pkgPath := "", byteOffset := 0 }, { name := "shifts", type := 51, offset := 1, embedded := false, tag := "", pkgPath := "", byteOffset := 16 }], .agg ⟨[.string ⟨⟨[]⟩⟩, .slice none 0 0]⟩, 2, 40⟩ := TyOk.mk' Tryz.underlying95 (by kernel_rfl) (by kernel_rfl)
theorem ty96 : TyOk Tryz.prog 96 ⟨TypeDesc.func #[55] #[55] false, .nilFunc, 1, 8⟩ := TyOk.mk' Tryz.underlying96 (by kernel_rfl) (by kernel_rfl)
theorem ty97 : TyOk Tryz.prog 97 ⟨TypeDesc.func #[57, 71] #[57] false, .nilFunc, 1, 8⟩ := TyOk.mk' Tryz.underlying97 (by kernel_rfl) (by kernel_rfl)
theorem ty99 : TyOk Tryz.prog 99 ⟨TypeDesc.func #[9] #[50, 4] false, .nilFunc, 1, 8⟩ := TyOk.mk' Tryz.underlying99 (by kernel_rfl) (by kernel_rfl)
theorem ty100 : TyOk Tryz.prog 100 ⟨TypeDesc.int IntKind.u64, .int .u64 0, 1, 8⟩ := TyOk.mk' Tryz.underlying100 (by kernel_rfl) (by kernel_rfl)
theorem ty101 : TyOk Tryz.prog 101 ⟨TypeDesc.func #[50, 3] #[9] false, .nilFunc, 1, 8⟩ := TyOk.mk' Tryz.underlying101 (by kernel_rfl) (by kernel_rfl)
theorem ty102 : TyOk Tryz.prog 102 ⟨TypeDesc.struct #[{ name := "L", type := 50, offset := 0, embedded := false, tag := "", pkgPath := "", byteOffset := 0 }, { name := "E", type := 3, offset := 1, embedded := false, tag := "", pkgPath := "", byteOffset := 24 }], .agg ⟨[.slice none 0 0, .int .i64 0]⟩, 2, 32⟩ := TyOk.mk' Tryz.underlying102 (by kernel_rfl) (by kernel_rfl)
theorem ty103 : TyOk Tryz.prog 103 ⟨TypeDesc.struct #[{ name := "L", type := 50, offset := 0, embedded := false, tag := "", pkgPath := "", byteOffset := 0 }, { name := "E", type := 3, offset := 1, embedded := false, tag := "", pkgPath := "", byteOffset := 24 }], .agg ⟨[.slice none 0 0, .int .i64 0]⟩, 2, 32⟩ := TyOk.mk' Tryz.underlying103 (by kernel_rfl) (by kernel_rfl)
theorem ty104 : TyOk Tryz.prog 104 ⟨TypeDesc.func #[9] #[103] false, .nilFunc, 1, 8⟩ := TyOk.mk' Tryz.underlying104 (by kernel_rfl) (by kernel_rfl)
theorem ty105 : TyOk Tryz.prog 105 ⟨TypeDesc.func #[9] #[3, 4] false, .nilFunc, 1, 8⟩ := TyOk.mk' Tryz.underlying105 (by kernel_rfl) (by kernel_rfl)
theorem ty107 : TyOk Tryz.prog 107 ⟨TypeDesc.func #[9] #[50, 30] false, .nilFunc, 1, 8⟩ := TyOk.mk' Tryz.underlying107 (by kernel_rfl) (by kernel_rfl)
theorem ty108 : TyOk Tryz.prog 108 ⟨TypeDesc.int IntKind.u64, .int .u64 0, 1, 8⟩ := TyOk.mk' Tryz.underlying108 (by kernel_rfl) (by kernel_rfl)
theorem ty109 : TyOk Tryz.prog 109 ⟨TypeDesc.func #[3] #[3] false, .nilFunc, 1, 8⟩ := TyOk.mk' Tryz.underlying109 (by kernel_rfl) (by kernel_rfl)
theorem ty110 : TyOk Tryz.prog 110 ⟨TypeDesc.func #[57] #[4] false, .nilFunc, 1, 8⟩ := TyOk.mk' Tryz.underlying110 (by kernel_rfl) (by kernel_rfl)
theorem ty112 : TyOk Tryz.prog 112 ⟨TypeDesc.func #[9] #[71, 4] false, .nilFunc, 1, 8⟩ := TyOk.mk' Tryz.underlying112 (by kernel_rfl) (by kernel_rfl)
theorem ty114 : TyOk Tryz.prog 114 ⟨TypeDesc.func #[68, 3, 3] #[3, 3, 4] false, .nilFunc, 1, 8⟩ := TyOk.mk' Tryz.underlying114 (by kernel_rfl) (by kernel_rfl)
theorem ty115 : TyOk Tryz.prog 115 ⟨TypeDesc.func #[54] #[4] false, .nilFunc, 1, 8⟩ := TyOk.mk' Tryz.underlying115 (by kernel_rfl) (by kernel_rfl)
theorem ty116 : TyOk Tryz.prog 116 ⟨TypeDesc.pointer 118, .pointer none, 1, 8⟩ := TyOk.mk' Tryz.underlying116 (by kernel_rfl) (by kernel_rfl)
theorem ty117 : TyOk Tryz.prog 117 ⟨TypeDesc.struct #[{ name := "l", type := 50, offset := 0, embedded := false, tag := "", pkgPath := "", byteOffset := 0 }, { name := "out", type := 22, offset := 1, embedded := false, tag := "", pkgPath := "", byteOffset := 24 }], .agg ⟨[.slice none 0 0, .slice none 0 0]⟩, 2, 48⟩ := TyOk.mk' Tryz.underlying117 (by kernel_rfl) (by kernel_rfl)
theorem ty118 : TyOk Tryz.prog 118 ⟨TypeDesc.struct #[{ name := "l", type := 50, offset := 0, embedded := false, tag := "", pkgPath := "", byteOffset := 0 }, { name := "out", type := 22, offset := 1, embedded := false, tag := "", pkgPath := "", byteOffset := 24 }], .agg ⟨[.slice none 0 0, .slice none 0 0]⟩, 2, 48⟩ := TyOk.mk' Tryz.underlying118 (by kernel_rfl) (by kernel_rfl)
theorem ty119 : TyOk Tryz.prog 119 ⟨TypeDesc.func #[3] #[] false, .nilFunc, 1, 8⟩ := TyOk.mk' Tryz.underlying119 (by kernel_rfl) (by kernel_rfl)
theorem ty120 : TyOk Tryz.prog 120 ⟨TypeDesc.func #[9] #[9] false, .nilFunc, 1, 8⟩ := TyOk.mk' Tryz.underlying120 (by kernel_rfl) (by kernel_rfl)
theorem ty121 : TyOk Tryz.prog 121 ⟨TypeDesc.func #[54] #[9] false, .nilFunc, 1, 8⟩ := TyOk.mk' Tryz.underlying121 (by kernel_rfl) (by kernel_rfl)
theorem ty122 : TyOk Tryz.prog 122 ⟨TypeDesc.func #[9, 4] #[9] false, .nilFunc, 1, 8⟩ := TyOk.mk' Tryz.underlying122 (by kernel_rfl) (by kernel_rfl)
theorem ty123 : TyOk Tryz.prog 123 ⟨TypeDesc.slice 131, .slice none 0 0, 1, 24⟩ := TyOk.mk' Tryz.underlying123 (by kernel_rfl) (by kernel_rfl)
theorem ty124 : TyOk Tryz.prog 124 ⟨TypeDesc.struct #[{ name := "L", type := 123, offset := 0, embedded := false, tag := "", pkgPath := "", byteOffset := 0 }, { name := "E", type := 3, offset := 1, embedded := false, tag := "", pkgPath := "", byteOffset := 24 }], .agg ⟨[.slice none 0 0, .int .i64 0]⟩, 2, 32⟩ := TyOk.mk' Tryz.underlying124 (by kernel_rfl) (by kernel_rfl)
theorem ty125 : TyOk Tryz.prog 125 ⟨TypeDesc.struct #[{ name := "L", type := 123, offset := 0, embedded := false, tag := "", pkgPath := "", byteOffset := 0 }, { name := "E", type := 3, offset := 1, embedded := false, tag := "", pkgPath := "", byteOffset := 24 }], .agg ⟨[.slice none 0 0, .int .i64 0]⟩, 2, 32⟩ := TyOk.mk' Tryz.underlying125 (by kernel_rfl) (by kernel_rfl)
theorem ty126 : TyOk Tryz.prog 126 ⟨TypeDesc.func #[9] #[125] false, .nilFunc, 1, 8⟩ := TyOk.mk' Tryz.underlying126 (by kernel_rfl) (by kernel_rfl)
theorem ty127 : TyOk Tryz.prog 127 ⟨TypeDesc.pointer 129, .pointer none, 1, 8⟩ := TyOk.mk' Tryz.underlying127 (by kernel_rfl) (by kernel_rfl)
theorem ty128 : TyOk Tryz.prog 128 ⟨TypeDesc.struct #[{ name := "l", type := 123, offset := 0, embedded := false, tag := "", pkgPath := "", byteOffset := 0 }, { name := "i", type := 3, offset := 1, embedded := false, tag := "", pkgPath := "", byteOffset := 24 }, { name := "deep", type := 3, offset := 2, embedded := false, tag := "", pkgPath := "", byteOffset := 32 }, { name := "e", type := 3, offset := 3, embedded := false, tag := "", pkgPath := "", byteOffset := 40 }, { name := "out", type := 50, offset := 4, embedded := false, tag := "", pkgPath := "", byteOffset := 48 }], .agg ⟨[.slice none 0 0, .int .i64 0, .int .i64 0, .int .i64 0, .slice none 0 0]⟩, 5, 72⟩ := TyOk.mk' Tryz.underlying128 (by kernel_rfl) (by kernel_rfl)
theorem ty129 : TyOk Tryz.prog 129 ⟨TypeDesc.struct #[{ name := "l", type := 123, offset := 0, embedded := false, tag := "", pkgPath := "", byteOffset := 0 }, { name := "i", type := 3, offset := 1, embedded := false, tag := "", pkgPath := "", byteOffset := 24 }, { name := "deep", type := 3, offset := 2, embedded := false, tag := "", pkgPath := "", byteOffset := 32 }, { name := "e", type := 3, offset := 3, embedded := false, tag := "", pkgPath := "", byteOffset := 40 }, { name := "out", type := 50, offset := 4, embedded := false, tag := "", pkgPath := "", byteOffset := 48 }], .agg ⟨[.slice none 0 0, .int .i64 0, .int .i64 0, .int .i64 0, .slice none 0 0]⟩, 5, 72⟩ := TyOk.mk' Tryz.underlying129 (by kernel_rfl) (by kernel_rfl)
theorem ty130 : TyOk Tryz.prog 130 ⟨TypeDesc.struct #[{ name := "Kind", type := 3, offset := 0, embedded := false, tag := "", pkgPath := "", byteOffset := 0 }, { name := "Text", type := 9, offset := 1, embedded := false, tag := "", pkgPath := "", byteOffset := 8 }, { name := "Num", type := 3, offset := 2, embedded := false, tag := "", pkgPath := "", byteOffset := 24 }, { name := "Ref", type := 54, offset := 3, embedded := false, tag := "", pkgPath := "", byteOffset := 32 }, { name := "At", type := 3, offset := 8, embedded := false, tag := "", pkgPath := "", byteOffset := 72 }], .agg ⟨[.int .i64 0, .string ⟨⟨[]⟩⟩, .int .i64 0, .string ⟨⟨[]⟩⟩, .int .i64 0, .int .i64 0, .bool false, .bool false, .int .i64 0]⟩, 9, 80⟩ := TyOk.mk' Tryz.underlying130 (by kernel_rfl) (by kernel_rfl)
theorem ty131 : TyOk Tryz.prog 131 ⟨TypeDesc.struct #[{ name := "Kind", type := 3, offset := 0, embedded := false, tag := "", pkgPath := "", byteOffset := 0 }, { name := "Text", type := 9, offset := 1, embedded := false, tag := "", pkgPath := "", byteOffset := 8 }, { name := "Num", type := 3, offset := 2, embedded := false, tag := "", pkgPath := "", byteOffset := 24 }, { name := "Ref", type := 54, offset := 3, embedded := false, tag := "", pkgPath := "", byteOffset := 32 }, { name := "At", type := 3, offset := 8, embedded := false, tag := "", pkgPath := "", byteOffset := 72 }], .agg ⟨[.int .i64 0, .string ⟨⟨[]⟩⟩, .int .i64 0, .string ⟨⟨[]⟩⟩, .int .i64 0, .int .i64 0, .bool false, .bool false, .int .i64 0]⟩, 9, 80⟩ := TyOk.mk' Tryz.underlying131 (by kernel_rfl) (by kernel_rfl)
theorem ty132 : TyOk Tryz.prog 132 ⟨TypeDesc.func #[3, 3] #[3, 4] false, .nilFunc, 1, 8⟩ := TyOk.mk' Tryz.underlying132 (by kernel_rfl) (by kernel_rfl)
theorem ty134 : TyOk Tryz.prog 134 ⟨TypeDesc.func #[9] #[123, 30] false, .nilFunc, 1, 8⟩ := TyOk.mk' Tryz.underlying134 (by kernel_rfl) (by kernel_rfl)
theorem ty135 : TyOk Tryz.prog 135 ⟨TypeDesc.int IntKind.i64, .int .i64 0, 1, 8⟩ := TyOk.mk' Tryz.underlying135 (by kernel_rfl) (by kernel_rfl)
theorem ty137 : TyOk Tryz.prog 137 ⟨TypeDesc.pointer 139, .pointer none, 1, 8⟩ := TyOk.mk' Tryz.underlying137 (by kernel_rfl) (by kernel_rfl)
theorem ty138 : TyOk Tryz.prog 138 ⟨TypeDesc.struct #[{ name := "l", type := 123, offset := 0, embedded := false, tag := "", pkgPath := "", byteOffset := 0 }, { name := "at", type := 3, offset := 1, embedded := false, tag := "", pkgPath := "", byteOffset := 24 }, { name := "out", type := 50, offset := 2, embedded := false, tag := "", pkgPath := "", byteOffset := 32 }, { name := "deep", type := 3, offset := 3, embedded := false, tag := "", pkgPath := "", byteOffset := 56 }], .agg ⟨[.slice none 0 0, .int .i64 0, .slice none 0 0, .int .i64 0]⟩, 4, 64⟩ := TyOk.mk' Tryz.underlying138 (by kernel_rfl) (by kernel_rfl)
theorem ty139 : TyOk Tryz.prog 139 ⟨TypeDesc.struct #[{ name := "l", type := 123, offset := 0, embedded := false, tag := "", pkgPath := "", byteOffset := 0 }, { name := "at", type := 3, offset := 1, embedded := false, tag := "", pkgPath := "", byteOffset := 24 }, { name := "out", type := 50, offset := 2, embedded := false, tag := "", pkgPath := "", byteOffset := 32 }, { name := "deep", type := 3, offset := 3, embedded := false, tag := "", pkgPath := "", byteOffset := 56 }], .agg ⟨[.slice none 0 0, .int .i64 0, .slice none 0 0, .int .i64 0]⟩, 4, 64⟩ := TyOk.mk' Tryz.underlying139 (by kernel_rfl) (by kernel_rfl)
theorem ty140 : TyOk Tryz.prog 140 ⟨TypeDesc.func #[] #[3] false, .nilFunc, 1, 8⟩ := TyOk.mk' Tryz.underlying140 (by kernel_rfl) (by kernel_rfl)
theorem ty141 : TyOk Tryz.prog 141 ⟨TypeDesc.func #[] #[131] false, .nilFunc, 1, 8⟩ := TyOk.mk' Tryz.underlying141 (by kernel_rfl) (by kernel_rfl)
theorem ty142 : TyOk Tryz.prog 142 ⟨TypeDesc.func #[30] #[] false, .nilFunc, 1, 8⟩ := TyOk.mk' Tryz.underlying142 (by kernel_rfl) (by kernel_rfl)
theorem ty143 : TyOk Tryz.prog 143 ⟨TypeDesc.interface #[("", 221)], .nilIface, 1, 16⟩ := TyOk.mk' Tryz.underlying143 (by kernel_rfl) (by kernel_rfl)
theorem ty144 : TyOk Tryz.prog 144 ⟨TypeDesc.interface #[("", 221)], .nilIface, 1, 16⟩ := TyOk.mk' Tryz.underlying144 (by kernel_rfl) (by kernel_rfl)
theorem ty146 : TyOk Tryz.prog 146 ⟨TypeDesc.func #[9] #[3, 144] false, .nilFunc, 1, 8⟩ := TyOk.mk' Tryz.underlying146 (by kernel_rfl) (by kernel_rfl)
theorem ty147 : TyOk Tryz.prog 147 ⟨TypeDesc.func #[24, 82] #[3] false, .nilFunc, 1, 8⟩ := TyOk.mk' Tryz.underlying147 (by kernel_rfl) (by kernel_rfl)
theorem ty148 : TyOk Tryz.prog 148 ⟨TypeDesc.func #[5] #[4] false, .nilFunc, 1, 8⟩ := TyOk.mk' Tryz.underlying148 (by kernel_rfl) (by kernel_rfl)
theorem ty149 : TyOk Tryz.prog 149 ⟨TypeDesc.func #[54, 54] #[4] false, .nilFunc, 1, 8⟩ := TyOk.mk' Tryz.underlying149 (by kernel_rfl) (by kernel_rfl)
theorem ty150 : TyOk Tryz.prog 150 ⟨TypeDesc.func #[51, 151] #[3] false, .nilFunc, 1, 8⟩ := TyOk.mk' Tryz.underlying150 (by kernel_rfl) (by kernel_rfl)
theorem ty151 : TyOk Tryz.prog 151 ⟨TypeDesc.func #[71] #[4] false, .nilFunc, 1, 8⟩ := TyOk.mk' Tryz.underlying151 (by kernel_rfl) (by kernel_rfl)
theorem ty153 : TyOk Tryz.prog 153 ⟨TypeDesc.func #[9] #[54, 4] false, .nilFunc, 1, 8⟩ := TyOk.mk' Tryz.underlying153 (by kernel_rfl) (by kernel_rfl)
theorem ty154 : TyOk Tryz.prog 154 ⟨TypeDesc.func #[116, 57] #[] false, .nilFunc, 1, 8⟩ := TyOk.mk' Tryz.underlying154 (by kernel_rfl) (by kernel_rfl)
theorem ty155 : TyOk Tryz.prog 155 ⟨TypeDesc.func #[57] #[] false, .nilFunc, 1, 8⟩ := TyOk.mk' Tryz.underlying155 (by kernel_rfl) (by kernel_rfl)
theorem ty157 : TyOk Tryz.prog 157 ⟨TypeDesc.func #[9, 3] #[131, 3] false, .nilFunc, 1, 8⟩ := TyOk.mk' Tryz.underlying157 (by kernel_rfl) (by kernel_rfl)
theorem ty159 : TyOk Tryz.prog 159 ⟨TypeDesc.func #[3] #[48, 55] false, .nilFunc, 1, 8⟩ := TyOk.mk' Tryz.underlying159 (by kernel_rfl) (by kernel_rfl)
theorem ty160 : TyOk Tryz.prog 160 ⟨TypeDesc.func #[57] #[3] false, .nilFunc, 1, 8⟩ := TyOk.mk' Tryz.underlying160 (by kernel_rfl) (by kernel_rfl)
theorem ty161 : TyOk Tryz.prog 161 ⟨TypeDesc.pointer 163, .pointer none, 1, 8⟩ := TyOk.mk' Tryz.underlying161 (by kernel_rfl) (by kernel_rfl)
theorem ty162 : TyOk Tryz.prog 162 ⟨TypeDesc.struct #[{ name := "s", type := 9, offset := 0, embedded := false, tag := "", pkgPath := "", byteOffset := 0 }, { name := "at", type := 3, offset := 1, embedded := false, tag := "", pkgPath := "", byteOffset := 16 }], .agg ⟨[.string ⟨⟨[]⟩⟩, .int .i64 0]⟩, 2, 24⟩ := TyOk.mk' Tryz.underlying162 (by kernel_rfl) (by kernel_rfl)
theorem ty163 : TyOk Tryz.prog 163 ⟨TypeDesc.struct #[{ name := "s", type := 9, offset := 0, embedded := false, tag := "", pkgPath := "", byteOffset := 0 }, { name := "at", type := 3, offset := 1, embedded := false, tag := "", pkgPath := "", byteOffset := 16 }], .agg ⟨[.string ⟨⟨[]⟩⟩, .int .i64 0]⟩, 2, 24⟩ := TyOk.mk' Tryz.underlying163 (by kernel_rfl) (by kernel_rfl)
theorem ty164 : TyOk Tryz.prog 164 ⟨TypeDesc.func #[148] #[9] false, .nilFunc, 1, 8⟩ := TyOk.mk' Tryz.underlying164 (by kernel_rfl) (by kernel_rfl)
theorem ty166 : TyOk Tryz.prog 166 ⟨TypeDesc.func #[161] #[131, 4] false, .nilFunc, 1, 8⟩ := TyOk.mk' Tryz.underlying166 (by kernel_rfl) (by kernel_rfl)
theorem ty167 : TyOk Tryz.prog 167 ⟨TypeDesc.func #[5] #[166] false, .nilFunc, 1, 8⟩ := TyOk.mk' Tryz.underlying167 (by kernel_rfl) (by kernel_rfl)
theorem ty168 : TyOk Tryz.prog 168 ⟨TypeDesc.func #[170] #[3] false, .nilFunc, 1, 8⟩ := TyOk.mk' Tryz.underlying168 (by kernel_rfl) (by kernel_rfl)
theorem ty169 : TyOk Tryz.prog 169 ⟨TypeDesc.struct #[{ name := "below", type := 140, offset := 0, embedded := false, tag := "", pkgPath := "", byteOffset := 0 }, { name := "signs", type := 48, offset := 1, embedded := false, tag := "", pkgPath := "", byteOffset := 8 }, { name := "kinds", type := 55, offset := 2, embedded := false, tag := "", pkgPath := "", byteOffset := 32 }], .agg ⟨[.nilFunc, .slice none 0 0, .slice none 0 0]⟩, 3, 56⟩ := TyOk.mk' Tryz.underlying169 (by kernel_rfl) (by kernel_rfl)
theorem ty170 : TyOk Tryz.prog 170 ⟨TypeDesc.struct #[{ name := "below", type := 140, offset := 0, embedded := false, tag := "", pkgPath := "", byteOffset := 0 }, { name := "signs", type := 48, offset := 1, embedded := false, tag := "", pkgPath := "", byteOffset := 8 }, { name := "kinds", type := 55, offset := 2, embedded := false, tag := "", pkgPath := "", byteOffset := 32 }], .agg ⟨[.nilFunc, .slice none 0 0, .slice none 0 0]⟩, 3, 56⟩ := TyOk.mk' Tryz.underlying170 (by kernel_rfl) (by kernel_rfl)
theorem ty171 : TyOk Tryz.prog 171 ⟨TypeDesc.func #[9, 9, 3, 3, 144] #[144] false, .nilFunc, 1, 8⟩ := TyOk.mk' Tryz.underlying171 (by kernel_rfl) (by kernel_rfl)
theorem ty172 : TyOk Tryz.prog 172 ⟨TypeDesc.func #[2, 3] #[9] false, .nilFunc, 1, 8⟩ := TyOk.mk' Tryz.underlying172 (by kernel_rfl) (by kernel_rfl)
theorem ty173 : TyOk Tryz.prog 173 ⟨TypeDesc.func #[9] #[] false, .nilFunc, 1, 8⟩ := TyOk.mk' Tryz.underlying173 (by kernel_rfl) (by kernel_rfl)
theorem ty174 : TyOk Tryz.prog 174 ⟨TypeDesc.func #[9, 9, 9] #[9] false, .nilFunc, 1, 8⟩ := TyOk.mk' Tryz.underlying174 (by kernel_rfl) (by kernel_rfl)
theorem ty175 : TyOk Tryz.prog 175 ⟨TypeDesc.func #[3, 3] #[] false, .nilFunc, 1, 8⟩ := TyOk.mk' Tryz.underlying175 (by kernel_rfl) (by kernel_rfl)
theorem ty177 : TyOk Tryz.prog 177 ⟨TypeDesc.func #[3] #[9, 3] false, .nilFunc, 1, 8⟩ := TyOk.mk' Tryz.underlying177 (by kernel_rfl) (by kernel_rfl)
theorem ty178 : TyOk Tryz.prog 178 ⟨TypeDesc.func #[9, 3] #[9] false, .nilFunc, 1, 8⟩ := TyOk.mk' Tryz.underlying178 (by kernel_rfl) (by kernel_rfl)
theorem ty179 : TyOk Tryz.prog 179 ⟨TypeDesc.func #[] #[131, 4] false, .nilFunc, 1, 8⟩ := TyOk.mk' Tryz.underlying179 (by kernel_rfl) (by kernel_rfl)
theorem ty180 : TyOk Tryz.prog 180 ⟨TypeDesc.func #[48, 9] #[3] false, .nilFunc, 1, 8⟩ := TyOk.mk' Tryz.underlying180 (by kernel_rfl) (by kernel_rfl)
theorem ty181 : TyOk Tryz.prog 181 ⟨TypeDesc.int IntKind.i64, .int .i64 0, 1, 8⟩ := TyOk.mk' Tryz.underlying181 (by kernel_rfl) (by kernel_rfl)
theorem ty183 : TyOk Tryz.prog 183 ⟨TypeDesc.func #[9, 3, 3] #[2, 144] false, .nilFunc, 1, 8⟩ := TyOk.mk' Tryz.underlying183 (by kernel_rfl) (by kernel_rfl)
theorem ty184 : TyOk Tryz.prog 184 ⟨TypeDesc.pointer 205, .pointer none, 1, 8⟩ := TyOk.mk' Tryz.underlying184 (by kernel_rfl) (by kernel_rfl)
theorem ty185 : TyOk Tryz.prog 185 ⟨TypeDesc.func #[9, 9] #[184] false, .nilFunc, 1, 8⟩ := TyOk.mk' Tryz.underlying185 (by kernel_rfl) (by kernel_rfl)
theorem ty186 : TyOk Tryz.prog 186 ⟨TypeDesc.func #[9, 9, 3] #[184] false, .nilFunc, 1, 8⟩ := TyOk.mk' Tryz.underlying186 (by kernel_rfl) (by kernel_rfl)
theorem ty187 : TyOk Tryz.prog 187 ⟨TypeDesc.array 24 5, .agg ⟨[.int .u8 0, .int .u8 0, .int .u8 0, .int .u8 0, .int .u8 0, .int .u8 0, .int .u8 0, .int .u8 0, .int .u8 0, .int .u8 0, .int .u8 0, .int .u8 0, .int .u8 0, .int .u8 0, .int .u8 0, .int .u8 0, .int .u8 0, .int .u8 0, .int .u8 0, .int .u8 0, .int .u8 0, .int .u8 0, .int .u8 0, .int .u8 0]⟩, 24, 24⟩ := TyOk.mk' Tryz.underlying187 (by kernel_rfl) (by kernel_rfl)
theorem ty188 : TyOk Tryz.prog 188 ⟨TypeDesc.func #[108] #[3] false, .nilFunc, 1, 8⟩ := TyOk.mk' Tryz.underlying188 (by kernel_rfl) (by kernel_rfl)
theorem ty189 : TyOk Tryz.prog 189 ⟨TypeDesc.func #[22, 108] #[] false, .nilFunc, 1, 8⟩ := TyOk.mk' Tryz.underlying189 (by kernel_rfl) (by kernel_rfl)
theorem ty191 : TyOk Tryz.prog 191 ⟨TypeDesc.func #[22, 108, 3, 4, 4] #[22, 9] false, .nilFunc, 1, 8⟩ := TyOk.mk' Tryz.underlying191 (by kernel_rfl) (by kernel_rfl)
theorem ty192 : TyOk Tryz.prog 192 ⟨TypeDesc.pointer 194, .pointer none, 1, 8⟩ := TyOk.mk' Tryz.underlying192 (by kernel_rfl) (by kernel_rfl)
theorem ty193 : TyOk Tryz.prog 193 ⟨TypeDesc.struct #[{ name := "s", type := 9, offset := 0, embedded := false, tag := "", pkgPath := "", byteOffset := 0 }], .agg ⟨[.string ⟨⟨[]⟩⟩]⟩, 1, 16⟩ := TyOk.mk' Tryz.underlying193 (by kernel_rfl) (by kernel_rfl)
theorem ty194 : TyOk Tryz.prog 194 ⟨TypeDesc.struct #[{ name := "s", type := 9, offset := 0, embedded := false, tag := "", pkgPath := "", byteOffset := 0 }], .agg ⟨[.string ⟨⟨[]⟩⟩]⟩, 1, 16⟩ := TyOk.mk' Tryz.underlying194 (by kernel_rfl) (by kernel_rfl)
theorem ty196 : TyOk Tryz.prog 196 ⟨TypeDesc.func #[9, 9] #[9, 9, 4] false, .nilFunc, 1, 8⟩ := TyOk.mk' Tryz.underlying196 (by kernel_rfl) (by kernel_rfl)
theorem ty197 : TyOk Tryz.prog 197 ⟨TypeDesc.func #[9, 9, 9, 3] #[9] false, .nilFunc, 1, 8⟩ := TyOk.mk' Tryz.underlying197 (by kernel_rfl) (by kernel_rfl)
theorem ty198 : TyOk Tryz.prog 198 ⟨TypeDesc.func #[4] #[9] false, .nilFunc, 1, 8⟩ := TyOk.mk' Tryz.underlying198 (by kernel_rfl) (by kernel_rfl)
theorem ty199 : TyOk Tryz.prog 199 ⟨TypeDesc.func #[54] #[3] false, .nilFunc, 1, 8⟩ := TyOk.mk' Tryz.underlying199 (by kernel_rfl) (by kernel_rfl)
theorem ty200 : TyOk Tryz.prog 200 ⟨TypeDesc.func #[9] #[3] false, .nilFunc, 1, 8⟩ := TyOk.mk' Tryz.underlying200 (by kernel_rfl) (by kernel_rfl)
theorem ty201 : TyOk Tryz.prog 201 ⟨TypeDesc.func #[9, 9] #[4] false, .nilFunc, 1, 8⟩ := TyOk.mk' Tryz.underlying201 (by kernel_rfl) (by kernel_rfl)
theorem ty203 : TyOk Tryz.prog 203 ⟨TypeDesc.func #[9, 3, 3] #[108, 144] false, .nilFunc, 1, 8⟩ := TyOk.mk' Tryz.underlying203 (by kernel_rfl) (by kernel_rfl)
theorem ty204 : TyOk Tryz.prog 204 ⟨TypeDesc.struct #[{ name := "Func", type := 9, offset := 0, embedded := false, tag := "", pkgPath := "", byteOffset := 0 }, { name := "Num", type := 9, offset := 1, embedded := false, tag := "", pkgPath := "", byteOffset := 16 }, { name := "Err", type := 144, offset := 2, embedded := false, tag := "", pkgPath := "", byteOffset := 32 }], .agg ⟨[.string ⟨⟨[]⟩⟩, .string ⟨⟨[]⟩⟩, .nilIface]⟩, 3, 48⟩ := TyOk.mk' Tryz.underlying204 (by kernel_rfl) (by kernel_rfl)
theorem ty205 : TyOk Tryz.prog 205 ⟨TypeDesc.struct #[{ name := "Func", type := 9, offset := 0, embedded := false, tag := "", pkgPath := "", byteOffset := 0 }, { name := "Num", type := 9, offset := 1, embedded := false, tag := "", pkgPath := "", byteOffset := 16 }, { name := "Err", type := 144, offset := 2, embedded := false, tag := "", pkgPath := "", byteOffset := 32 }], .agg ⟨[.string ⟨⟨[]⟩⟩, .string ⟨⟨[]⟩⟩, .nilIface]⟩, 3, 48⟩ := TyOk.mk' Tryz.underlying205 (by kernel_rfl) (by kernel_rfl)
theorem ty206 : TyOk Tryz.prog 206 ⟨TypeDesc.func #[9] #[144] false, .nilFunc, 1, 8⟩ := TyOk.mk' Tryz.underlying206 (by kernel_rfl) (by kernel_rfl)
theorem ty207 : TyOk Tryz.prog 207 ⟨TypeDesc.func #[4] #[3] false, .nilFunc, 1, 8⟩ := TyOk.mk' Tryz.underlying207 (by kernel_rfl) (by kernel_rfl)
theorem ty208 : TyOk Tryz.prog 208 ⟨TypeDesc.array 20 108, .agg ⟨[.int .u64 0, .int .u64 0, .int .u64 0, .int .u64 0, .int .u64 0, .int .u64 0, .int .u64 0, .int .u64 0, .int .u64 0, .int .u64 0, .int .u64 0, .int .u64 0, .int .u64 0, .int .u64 0, .int .u64 0, .int .u64 0, .int .u64 0, .int .u64 0, .int .u64 0, .int .u64 0]⟩, 20, 160⟩ := TyOk.mk' Tryz.underlying208 (by kernel_rfl) (by kernel_rfl)
theorem ty209 : TyOk Tryz.prog 209 ⟨TypeDesc.int IntKind.u32, .int .u32 0, 1, 4⟩ := TyOk.mk' Tryz.underlying209 (by kernel_rfl) (by kernel_rfl)
theorem ty210 : TyOk Tryz.prog 210 ⟨TypeDesc.array 65 5, .agg ⟨[.int .u8 0, .int .u8 0, .int .u8 0, .int .u8 0, .int .u8 0, .int .u8 0, .int .u8 0, .int .u8 0, .int .u8 0, .int .u8 0, .int .u8 0, .int .u8 0, .int .u8 0, .int .u8 0, .int .u8 0, .int .u8 0, .int .u8 0, .int .u8 0, .int .u8 0, .int .u8 0, .int .u8 0, .int .u8 0, .int .u8 0, .int .u8 0, .int .u8 0, .int .u8 0, .int .u8 0, .int .u8 0, .int .u8 0, .int .u8 0, .int .u8 0, .int .u8 0, .int .u8 0, .int .u8 0, .int .u8 0, .int .u8 0, .int .u8 0, .int .u8 0, .int .u8 0, .int .u8 0, .int .u8 0, .int .u8 0, .int .u8 0, .int .u8 0, .int .u8 0, .int .u8 0, .int .u8 0, .int .u8 0, .int .u8 0, .int .u8 0, .int .u8 0, .int .u8 0, .int .u8 0, .int .u8 0, .int .u8 0, .int .u8 0, .int .u8 0, .int .u8 0, .int .u8 0, .int .u8 0, .int .u8 0, .int .u8 0, .int .u8 0, .int .u8 0, .int .u8 0]⟩, 65, 65⟩ := TyOk.mk' Tryz.underlying210 (by kernel_rfl) (by kernel_rfl)
theorem ty211 : TyOk Tryz.prog 211 ⟨TypeDesc.func #[3] #[4] false, .nilFunc, 1, 8⟩ := TyOk.mk' Tryz.underlying211 (by kernel_rfl) (by kernel_rfl)
theorem ty212 : TyOk Tryz.prog 212 ⟨TypeDesc.func #[100] #[3] false, .nilFunc, 1, 8⟩ := TyOk.mk' Tryz.underlying212 (by kernel_rfl) (by kernel_rfl)
theorem ty214 : TyOk Tryz.prog 214 ⟨TypeDesc.func #[9, 9] #[9, 4] false, .nilFunc, 1, 8⟩ := TyOk.mk' Tryz.underlying214 (by kernel_rfl) (by kernel_rfl)
theorem ty215 : TyOk Tryz.prog 215 ⟨TypeDesc.func #[9, 9] #[3] false, .nilFunc, 1, 8⟩ := TyOk.mk' Tryz.underlying215 (by kernel_rfl) (by kernel_rfl)
theorem ty216 : TyOk Tryz.prog 216 ⟨TypeDesc.pointer 218, .pointer none, 1, 8⟩ := TyOk.mk' Tryz.underlying216 (by kernel_rfl) (by kernel_rfl)
theorem ty217 : TyOk Tryz.prog 217 ⟨TypeDesc.struct #[{ name := "addr", type := 216, offset := 0, embedded := false, tag := "", pkgPath := "", byteOffset := 0 }, { name := "buf", type := 22, offset := 1, embedded := false, tag := "", pkgPath := "", byteOffset := 8 }], .agg ⟨[.pointer none, .slice none 0 0]⟩, 2, 32⟩ := TyOk.mk' Tryz.underlying217 (by kernel_rfl) (by kernel_rfl)
theorem ty218 : TyOk Tryz.prog 218 ⟨TypeDesc.struct #[{ name := "addr", type := 216, offset := 0, embedded := false, tag := "", pkgPath := "", byteOffset := 0 }, { name := "buf", type := 22, offset := 1, embedded := false, tag := "", pkgPath := "", byteOffset := 8 }], .agg ⟨[.pointer none, .slice none 0 0]⟩, 2, 32⟩ := TyOk.mk' Tryz.underlying218 (by kernel_rfl) (by kernel_rfl)
theorem ty220 : TyOk Tryz.prog 220 ⟨TypeDesc.func #[9] #[21, 3] false, .nilFunc, 1, 8⟩ := TyOk.mk' Tryz.underlying220 (by kernel_rfl) (by kernel_rfl)
theorem ty221 : TyOk Tryz.prog 221 ⟨TypeDesc.func #[] #[9] false, .nilFunc, 1, 8⟩ := TyOk.mk' Tryz.underlying221 (by kernel_rfl) (by kernel_rfl)
theorem ty222 : TyOk Tryz.prog 222 ⟨TypeDesc.func #[5] #[5] false, .nilFunc, 1, 8⟩ := TyOk.mk' Tryz.underlying222 (by kernel_rfl) (by kernel_rfl)
theorem ty223 : TyOk Tryz.prog 223 ⟨TypeDesc.pointer 5, .pointer none, 1, 8⟩ := TyOk.mk' Tryz.underlying223 (by kernel_rfl) (by kernel_rfl)
theorem ty224 : TyOk Tryz.prog 224 ⟨TypeDesc.pointer 226, .pointer none, 1, 8⟩ := TyOk.mk' Tryz.underlying224 (by kernel_rfl) (by kernel_rfl)
theorem ty225 : TyOk Tryz.prog 225 ⟨TypeDesc.struct #[{ name := "s", type := 9, offset := 0, embedded := false, tag := "", pkgPath := "", byteOffset := 0 }], .agg ⟨[.string ⟨⟨[]⟩⟩]⟩, 1, 16⟩ := TyOk.mk' Tryz.underlying225 (by kernel_rfl) (by kernel_rfl)
theorem ty226 : TyOk Tryz.prog 226 ⟨TypeDesc.struct #[{ name := "s", type := 9, offset := 0, embedded := false, tag := "", pkgPath := "", byteOffset := 0 }], .agg ⟨[.string ⟨⟨[]⟩⟩]⟩, 1, 16⟩ := TyOk.mk' Tryz.underlying226 (by kernel_rfl) (by kernel_rfl)
theorem ty227 : TyOk Tryz.prog 227 ⟨TypeDesc.func #[209] #[3] false, .nilFunc, 1, 8⟩ := TyOk.mk' Tryz.underlying227 (by kernel_rfl) (by kernel_rfl)
theorem ty228 : TyOk Tryz.prog 228 ⟨TypeDesc.func #[9, 5] #[3] false, .nilFunc, 1, 8⟩ := TyOk.mk' Tryz.underlying228 (by kernel_rfl) (by kernel_rfl)
theorem ty229 : TyOk Tryz.prog 229 ⟨TypeDesc.array 32 5, .agg ⟨[.int .u8 0, .int .u8 0, .int .u8 0, .int .u8 0, .int .u8 0, .int .u8 0, .int .u8 0, .int .u8 0, .int .u8 0, .int .u8 0, .int .u8 0, .int .u8 0, .int .u8 0, .int .u8 0, .int .u8 0, .int .u8 0, .int .u8 0, .int .u8 0, .int .u8 0, .int .u8 0, .int .u8 0, .int .u8 0, .int .u8 0, .int .u8 0, .int .u8 0, .int .u8 0, .int .u8 0, .int .u8 0, .int .u8 0, .int .u8 0, .int .u8 0, .int .u8 0]⟩, 32, 32⟩ := TyOk.mk' Tryz.underlying229 (by kernel_rfl) (by kernel_rfl)
theorem ty230 : TyOk Tryz.prog 230 ⟨TypeDesc.array 64 5, .agg ⟨[.int .u8 0, .int .u8 0, .int .u8 0, .int .u8 0, .int .u8 0, .int .u8 0, .int .u8 0, .int .u8 0, .int .u8 0, .int .u8 0, .int .u8 0, .int .u8 0, .int .u8 0, .int .u8 0, .int .u8 0, .int .u8 0, .int .u8 0, .int .u8 0, .int .u8 0, .int .u8 0, .int .u8 0, .int .u8 0, .int .u8 0, .int .u8 0, .int .u8 0, .int .u8 0, .int .u8 0, .int .u8 0, .int .u8 0, .int .u8 0, .int .u8 0, .int .u8 0, .int .u8 0, .int .u8 0, .int .u8 0, .int .u8 0, .int .u8 0, .int .u8 0, .int .u8 0, .int .u8 0, .int .u8 0, .int .u8 0, .int .u8 0, .int .u8 0, .int .u8 0, .int .u8 0, .int .u8 0, .int .u8 0, .int .u8 0, .int .u8 0, .int .u8 0, .int .u8 0, .int .u8 0, .int .u8 0, .int .u8 0, .int .u8 0, .int .u8 0, .int .u8 0, .int .u8 0, .int .u8 0, .int .u8 0, .int .u8 0, .int .u8 0, .int .u8 0]⟩, 64, 64⟩ := TyOk.mk' Tryz.underlying230 (by kernel_rfl) (by kernel_rfl)
theorem ty233 : TyOk Tryz.prog 233 ⟨TypeDesc.func #[3] #[22] false, .nilFunc, 1, 8⟩ := TyOk.mk' Tryz.underlying233 (by kernel_rfl) (by kernel_rfl)
theorem ty234 : TyOk Tryz.prog 234 ⟨TypeDesc.array 256 5, .agg ⟨[.int .u8 0, .int .u8 0, .int .u8 0, .int .u8 0, .int .u8 0, .int .u8 0, .int .u8 0, .int .u8 0, .int .u8 0, .int .u8 0, .int .u8 0, .int .u8 0, .int .u8 0, .int .u8 0, .int .u8 0, .int .u8 0, .int .u8 0, .int .u8 0, .int .u8 0, .int .u8 0, .int .u8 0, .int .u8 0, .int .u8 0, .int .u8 0, .int .u8 0, .int .u8 0, .int .u8 0, .int .u8 0, .int .u8 0, .int .u8 0, .int .u8 0, .int .u8 0, .int .u8 0, .int .u8 0, .int .u8 0, .int .u8 0, .int .u8 0, .int .u8 0, .int .u8 0, .int .u8 0, .int .u8 0, .int .u8 0, .int .u8 0, .int .u8 0, .int .u8 0, .int .u8 0, .int .u8 0, .int .u8 0, .int .u8 0, .int .u8 0, .int .u8 0, .int .u8 0, .int .u8 0, .int .u8 0, .int .u8 0, .int .u8 0, .int .u8 0, .int .u8 0, .int .u8 0, .int .u8 0, .int .u8 0, .int .u8 0, .int .u8 0, .int .u8 0, .int .u8 0, .int .u8 0, .int .u8 0, .int .u8 0, .int .u8 0, .int .u8 0, .int .u8 0, .int .u8 0, .int .u8 0, .int .u8 0, .int .u8 0, .int .u8 0, .int .u8 0, .int .u8 0, .int .u8 0, .int .u8 0, .int .u8 0, .int .u8 0, .int .u8 0, .int .u8 0, .int .u8 0, .int .u8 0, .int .u8 0, .int .u8 0, .int .u8 0, .int .u8 0, .int .u8 0, .int .u8 0, .int .u8 0, .int .u8 0, .int .u8 0, .int .u8 0, .int .u8 0, .int .u8 0, .int .u8 0, .int .u8 0, .int .u8 0, .int .u8 0, .int .u8 0, .int .u8 0, .int .u8 0, .int .u8 0, .int .u8 0, .int .u8 0, .int .u8 0, .int .u8 0, .int .u8 0, .int .u8 0, .int .u8 0, .int .u8 0, .int .u8 0, .int .u8 0, .int .u8 0, .int .u8 0, .int .u8 0, .int .u8 0, .int .u8 0, .int .u8 0, .int .u8 0, .int .u8 0, .int .u8 0, .int .u8 0, .int .u8 0, .int .u8 0, .int .u8 0, .int .u8 0, .int .u8 0, .int .u8 0, .int .u8 0, .int .u8 0, .int .u8 0, .int .u8 0, .int .u8 0, .int .u8 0, .int .u8 0, .int .u8 0, .int .u8 0, .int .u8 0, .int .u8 0, .int .u8 0, .int .u8 0, .int .u8 0, .int .u8 0, .int .u8 0, .int .u8 0, .int .u8 0, .int .u8 0, .int .u8 0, .int .u8 0, .int .u8 0, .int .u8 0, .int .u8 0, .int .u8 0, .int .u8 0, .int .u8 0, .int .u8 0, .int .u8 0, .int .u8 0, .int .u8 0, .int .u8 0, .int .u8 0, .int .u8 0, .int .u8 0, .int .u8 0, .int .u8 0, .int .u8 0, .int .u8 0, .int .u8 0, .int .u8 0, .int .u8 0, .int .u8 0, .int .u8 0, .int .u8 0, .int .u8 0, .int .u8 0, .int .u8 0, .int .u8 0, .int .u8 0, .int .u8 0, .int .u8 0, .int .u8 0, .int .u8 0, .int .u8 0, .int .u8 0, .int .u8 0, .int .u8 0, .int .u8 0, .int .u8 0, .int .u8 0, .int .u8 0, .int .u8 0, .int .u8 0, .int .u8 0, .int .u8 0, .int .u8 0, .int .u8 0, .int .u8 0, .int .u8 0, .int .u8 0, .int .u8 0, .int .u8 0, .int .u8 0, .int .u8 0, .int .u8 0, .int .u8 0, .int .u8 0, .int .u8 0, .int .u8 0, .int .u8 0, .int .u8 0, .int .u8 0, .int .u8 0, .int .u8 0, .int .u8 0, .int .u8 0, .int .u8 0, .int .u8 0, .int .u8 0, .int .u8 0, .int .u8 0, .int .u8 0, .int .u8 0, .int .u8 0, .int .u8 0, .int .u8 0, .int .u8 0, .int .u8 0, .int .u8 0, .int .u8 0, .int .u8 0, .int .u8 0, .int .u8 0, .int .u8 0, .int .u8 0, .int .u8 0, .int .u8 0, .int .u8 0, .int .u8 0, .int .u8 0, .int .u8 0, .int .u8 0, .int .u8 0, .int .u8 0, .int .u8 0, .int .u8 0, .int .u8 0, .int .u8 0, .int .u8 0, .int .u8 0, .int .u8 0, .int .u8 0, .int .u8 0]⟩, 256, 256⟩ := TyOk.mk' Tryz.underlying234 (by kernel_rfl) (by kernel_rfl)
theorem ty235 : TyOk Tryz.prog 235 ⟨TypeDesc.struct #[{ name := "lo", type := 5, offset := 0, embedded := false, tag := "", pkgPath := "", byteOffset := 0 }, { name := "hi", type := 5, offset := 1, embedded := false, tag := "", pkgPath := "", byteOffset := 1 }], .agg ⟨[.int .u8 0, .int .u8 0]⟩, 2, 2⟩ := TyOk.mk' Tryz.underlying235 (by kernel_rfl) (by kernel_rfl)
theorem ty236 : TyOk Tryz.prog 236 ⟨TypeDesc.struct #[{ name := "lo", type := 5, offset := 0, embedded := false, tag := "", pkgPath := "", byteOffset := 0 }, { name := "hi", type := 5, offset := 1, embedded := false, tag := "", pkgPath := "", byteOffset := 1 }], .agg ⟨[.int .u8 0, .int .u8 0]⟩, 2, 2⟩ := TyOk.mk' Tryz.underlying236 (by kernel_rfl) (by kernel_rfl)
theorem ty237 : TyOk Tryz.prog 237 ⟨TypeDesc.array 16 236, .agg ⟨[.int .u8 0, .int .u8 0, .int .u8 0, .int .u8 0, .int .u8 0, .int .u8 0, .int .u8 0, .int .u8 0, .int .u8 0, .int .u8 0, .int .u8 0, .int .u8 0, .int .u8 0, .int .u8 0, .int .u8 0, .int .u8 0, .int .u8 0, .int .u8 0, .int .u8 0, .int .u8 0, .int .u8 0, .int .u8 0, .int .u8 0, .int .u8 0, .int .u8 0, .int .u8 0, .int .u8 0, .int .u8 0, .int .u8 0, .int .u8 0, .int .u8 0, .int .u8 0]⟩, 32, 32⟩ := TyOk.mk' Tryz.underlying237 (by kernel_rfl) (by kernel_rfl)
theorem ty239 : TyOk Tryz.prog 239 ⟨TypeDesc.func #[9] #[209, 209] false, .nilFunc, 1, 8⟩ := TyOk.mk' Tryz.underlying239 (by kernel_rfl) (by kernel_rfl)
theorem rows_ok : ∀ p ∈ rows, TyOk Tryz.prog p.1 p.2 := by
  intro p hp
  simp only [rows, List.mem_cons, List.not_mem_nil, or_false] at hp
  rcases hp with rfl | rfl | rfl | rfl | rfl | rfl | rfl | rfl | rfl | rfl | rfl | rfl | rfl | rfl | rfl | rfl | rfl | rfl | rfl | rfl | rfl | rfl | rfl | rfl | rfl | rfl | rfl | rfl | rfl | rfl | rfl | rfl | rfl | rfl | rfl | rfl | rfl | rfl | rfl | rfl | rfl | rfl | rfl | rfl | rfl | rfl | rfl | rfl | rfl | rfl | rfl | rfl | rfl | rfl | rfl | rfl | rfl | rfl | rfl | rfl | rfl | rfl | rfl | rfl | rfl | rfl | rfl | rfl | rfl | rfl | rfl | rfl | rfl | rfl | rfl | rfl | rfl | rfl | rfl | rfl | rfl | rfl | rfl | rfl | rfl | rfl | rfl | rfl | rfl | rfl | rfl | rfl | rfl | rfl | rfl | rfl | rfl | rfl | rfl | rfl | rfl | rfl | rfl | rfl | rfl | rfl | rfl | rfl | rfl | rfl | rfl | rfl | rfl | rfl | rfl | rfl | rfl | rfl | rfl | rfl | rfl | rfl | rfl | rfl | rfl | rfl | rfl | rfl | rfl | rfl | rfl | rfl | rfl | rfl | rfl | rfl | rfl | rfl | rfl | rfl | rfl | rfl | rfl | rfl | rfl | rfl | rfl | rfl | rfl | rfl | rfl | rfl | rfl | rfl | rfl | rfl | rfl | rfl | rfl | rfl | rfl | rfl | rfl | rfl | rfl | rfl | rfl | rfl | rfl | rfl | rfl | rfl | rfl | rfl | rfl | rfl | rfl | rfl | rfl | rfl | rfl | rfl | rfl | rfl | rfl | rfl | rfl | rfl | rfl | rfl | rfl | rfl | rfl | rfl | rfl | rfl | rfl | rfl | rfl | rfl | rfl | rfl | rfl | rfl
  · exact ty1
  · exact ty2
  · exact ty3
  · exact ty4
  · exact ty5
  · exact ty9
  · exact ty12
  · exact ty13
  · exact ty20
  · exact ty21
  · exact ty22
  · exact ty23
  · exact ty24
  · exact ty25
  · exact ty26
  · exact ty27
  · exact ty28
  · exact ty29
  · exact ty30
  · exact ty32
  · exact ty33
  · exact ty35
  · exact ty36
  · exact ty37
  · exact ty38
  · exact ty39
  · exact ty40
  · exact ty41
  · exact ty42
  · exact ty43
  · exact ty44
  · exact ty45
  · exact ty46
  · exact ty47
  · exact ty48
  · exact ty49
  · exact ty50
  · exact ty51
  · exact ty52
  · exact ty53
  · exact ty54
  · exact ty55
  · exact ty56
  · exact ty57
  · exact ty58
  · exact ty59
  · exact ty60
  · exact ty61
  · exact ty62
  · exact ty63
  · exact ty64
  · exact ty65
  · exact ty66
  · exact ty67
  · exact ty68
  · exact ty69
  · exact ty70
  · exact ty71
  · exact ty72
  · exact ty73
  · exact ty74
  · exact ty75
  · exact ty76
  · exact ty77
  · exact ty79
  · exact ty80
  · exact ty81
  · exact ty82
  · exact ty83
  · exact ty84
  · exact ty85
  · exact ty86
  · exact ty87
  · exact ty88
  · exact ty89
  · exact ty90
  · exact ty91
  · exact ty92
  · exact ty93
  · exact ty94
  · exact ty95
  · exact ty96
  · exact ty97
  · exact ty99
  · exact ty100
  · exact ty101
  · exact ty102
  · exact ty103
  · exact ty104
  · exact ty105
  · exact ty107
  · exact ty108
  · exact ty109
  · exact ty110
  · exact ty112
  · exact ty114
  · exact ty115
  · exact ty116
  · exact ty117
  · exact ty118
  · exact ty119
  · exact ty120
  · exact ty121
  · exact ty122
  · exact ty123
  · exact ty124
  · exact ty125
  · exact ty126
  · exact ty127
  · exact ty128
  · exact ty129
  · exact ty130
  · exact ty131
  · exact ty132
  · exact ty134
  · exact ty135
  · exact ty137
  · exact ty138
  · exact ty139
  · exact ty140
  · exact ty141
  · exact ty142
  · exact ty143
  · exact ty144
  · exact ty146
  · exact ty147
  · exact ty148
  · exact ty149
  · exact ty150
  · exact ty151
  · exact ty153
  · exact ty154
  · exact ty155
  · exact ty157
  · exact ty159
  · exact ty160
  · exact ty161
  · exact ty162
  · exact ty163
  · exact ty164
  · exact ty166
  · exact ty167
  · exact ty168
  · exact ty169
  · exact ty170
  · exact ty171
  · exact ty172
  · exact ty173
  · exact ty174
  · exact ty175
  · exact ty177
  · exact ty178
  · exact ty179
  · exact ty180
  · exact ty181
  · exact ty183
  · exact ty184
  · exact ty185
  · exact ty186
  · exact ty187
  · exact ty188
  · exact ty189
  · exact ty191
  · exact ty192
  · exact ty193
  · exact ty194
  · exact ty196
  · exact ty197
  · exact ty198
  · exact ty199
  · exact ty200
  · exact ty201
  · exact ty203
  · exact ty204
  · exact ty205
  · exact ty206
  · exact ty207
  · exact ty208
  · exact ty209
  · exact ty210
  · exact ty211
  · exact ty212
  · exact ty214
  · exact ty215
  · exact ty216
  · exact ty217
  · exact ty218
  · exact ty220
  · exact ty221
  · exact ty222
  · exact ty223
  · exact ty224
  · exact ty225
  · exact ty226
  · exact ty227
  · exact ty228
  · exact ty229
  · exact ty230
  · exact ty233
  · exact ty234
  · exact ty235
  · exact ty236
  · exact ty237
  · exact ty239
instance tab : Tab Tryz.prog := ⟨lookT rows, lookT_ok rows_ok⟩
end Go.Proofs.YtiaigmahdjhcoaaGreatDoor
