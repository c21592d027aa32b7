/-
  The table of the types of this seat's translation. Printed by gentab.py.
-/
import Derived.Test.YtgdohpcnpgjpaaaGreatDoorChecked
import Derived.Test.YtgdohpcnpgjpaaaGreatDoorTy
namespace Go.Proofs.YtgdohpcnpgjpaaaGreatDoor
open Go Go.E
set_option maxRecDepth 100000
def rows : List (Nat × TRow) := [
 (1, ⟨.func #[] #[] false, .nilFunc, 1, 8⟩),
 (2, ⟨.int .i64, .int .i64 0, 1, 8⟩),
 (3, ⟨.int .i64, .int .i64 0, 1, 8⟩),
 (4, ⟨.bool, .bool false, 1, 1⟩),
 (5, ⟨.int .u8, .int .u8 0, 1, 1⟩),
 (9, ⟨.string, .string ⟨⟨[]⟩⟩, 1, 16⟩),
 (12, ⟨.int .u64, .int .u64 0, 1, 8⟩),
 (13, ⟨.struct #[Fl "msg" 9 0 0, Fl "addr" 12 1 16], .agg ⟨[.string ⟨⟨[]⟩⟩, .int .u64 0]⟩, 2, 24⟩),
 (20, ⟨.interface #[], .nilIface, 1, 16⟩),
 (21, ⟨.int .i32, .int .i32 0, 1, 4⟩),
 (22, ⟨.slice 23, .slice none 0 0, 1, 24⟩),
 (23, ⟨.slice 9, .slice none 0 0, 1, 24⟩),
 (24, ⟨.struct #[Fl "Kind" 3 0 0, Fl "Rows" 22 1 8, Fl "Name" 9 2 32, Fl "Cols" 3 3 48, Fl "Kids" 23 4 56, Fl "Parents" 23 5 80, Fl "Note" 9 6 104], .agg ⟨[.int .i64 0, .slice none 0 0, .string ⟨⟨[]⟩⟩, .int .i64 0, .slice none 0 0, .slice none 0 0, .string ⟨⟨[]⟩⟩]⟩, 7, 120⟩),
 (25, ⟨.struct #[Fl "Kind" 3 0 0, Fl "Rows" 22 1 8, Fl "Name" 9 2 32, Fl "Cols" 3 3 48, Fl "Kids" 23 4 56, Fl "Parents" 23 5 80, Fl "Note" 9 6 104], .agg ⟨[.int .i64 0, .slice none 0 0, .string ⟨⟨[]⟩⟩, .int .i64 0, .slice none 0 0, .slice none 0 0, .string ⟨⟨[]⟩⟩]⟩, 7, 120⟩),
 (26, ⟨.slice 5, .slice none 0 0, 1, 24⟩),
 (27, ⟨.func #[25] #[4] false, .nilFunc, 1, 8⟩),
 (28, ⟨.func #[] #[4] false, .nilFunc, 1, 8⟩),
 (30, ⟨.func #[26] #[25, 4] false, .nilFunc, 1, 8⟩),
 (31, ⟨.func #[25] #[26] false, .nilFunc, 1, 8⟩),
 (32, ⟨.func #[25, 25] #[4] false, .nilFunc, 1, 8⟩),
 (33, ⟨.func #[26] #[9] false, .nilFunc, 1, 8⟩),
 (34, ⟨.func #[25, 26] #[4] false, .nilFunc, 1, 8⟩),
 (35, ⟨.func #[5, 26, 9] #[25] false, .nilFunc, 1, 8⟩),
 (36, ⟨.func #[5, 26, 9, 26, 26] #[4] false, .nilFunc, 1, 8⟩),
 (37, ⟨.func #[5] #[9] false, .nilFunc, 1, 8⟩),
 (38, ⟨.func #[5, 5, 4] #[4] false, .nilFunc, 1, 8⟩),
 (39, ⟨.pointer 41, .pointer none, 1, 8⟩),
 (40, ⟨.struct #[Fl "B" 26 0 0, Fl "At" 3 1 24, Fl "Bad" 4 2 32], .agg ⟨[.slice none 0 0, .int .i64 0, .bool false]⟩, 3, 40⟩),
 (41, ⟨.struct #[Fl "B" 26 0 0, Fl "At" 3 1 24, Fl "Bad" 4 2 32], .agg ⟨[.slice none 0 0, .int .i64 0, .bool false]⟩, 3, 40⟩),
 (42, ⟨.func #[39] #[3] false, .nilFunc, 1, 8⟩),
 (43, ⟨.func #[] #[3] false, .nilFunc, 1, 8⟩),
 (44, ⟨.func #[39] #[9] false, .nilFunc, 1, 8⟩),
 (45, ⟨.func #[] #[9] false, .nilFunc, 1, 8⟩),
 (46, ⟨.func #[39] #[23] false, .nilFunc, 1, 8⟩),
 (47, ⟨.func #[] #[23] false, .nilFunc, 1, 8⟩),
 (48, ⟨.func #[23] #[4] false, .nilFunc, 1, 8⟩),
 (49, ⟨.func #[22] #[4] false, .nilFunc, 1, 8⟩),
 (50, ⟨.func #[9] #[4] false, .nilFunc, 1, 8⟩),
 (51, ⟨.func #[3] #[26] false, .nilFunc, 1, 8⟩),
 (52, ⟨.func #[3] #[31] false, .nilFunc, 1, 8⟩),
 (53, ⟨.func #[23] #[26] false, .nilFunc, 1, 8⟩),
 (54, ⟨.func #[9] #[26] false, .nilFunc, 1, 8⟩),
 (55, ⟨.func #[23, 23] #[4] false, .nilFunc, 1, 8⟩),
 (56, ⟨.int .u64, .int .u64 0, 1, 8⟩),
 (57, ⟨.int .u64, .int .u64 0, 1, 8⟩),
 (58, ⟨.int .u32, .int .u32 0, 1, 4⟩),
 (59, ⟨.slice 58, .slice none 0 0, 1, 24⟩),
 (60, ⟨.func #[] #[59] false, .nilFunc, 1, 8⟩),
 (61, ⟨.func #[59, 26, 59] #[59] false, .nilFunc, 1, 8⟩),
 (62, ⟨.func #[3] #[9] false, .nilFunc, 1, 8⟩),
 (63, ⟨.func #[39, 64] #[3] false, .nilFunc, 1, 8⟩),
 (64, ⟨.func #[26, 3] #[3, 3, 4] false, .nilFunc, 1, 8⟩),
 (65, ⟨.func #[39, 66] #[9] false, .nilFunc, 1, 8⟩),
 (66, ⟨.func #[26, 3] #[9, 3, 4] false, .nilFunc, 1, 8⟩),
 (67, ⟨.func #[39, 68] #[23] false, .nilFunc, 1, 8⟩),
 (68, ⟨.func #[26, 3] #[23, 3, 4] false, .nilFunc, 1, 8⟩),
 (72, ⟨.func #[23, 50] #[4] false, .nilFunc, 1, 8⟩),
 (73, ⟨.func #[5] #[4] false, .nilFunc, 1, 8⟩),
 (74, ⟨.slice 133, .slice none 0 0, 1, 24⟩),
 (75, ⟨.struct #[Fl "L" 74 0 0, Fl "E" 3 1 24], .agg ⟨[.slice none 0 0, .int .i64 0]⟩, 2, 32⟩),
 (76, ⟨.struct #[Fl "L" 74 0 0, Fl "E" 3 1 24], .agg ⟨[.slice none 0 0, .int .i64 0]⟩, 2, 32⟩),
 (77, ⟨.func #[9] #[76] false, .nilFunc, 1, 8⟩),
 (78, ⟨.func #[74] #[9] false, .nilFunc, 1, 8⟩),
 (80, ⟨.func #[9] #[3, 4] false, .nilFunc, 1, 8⟩),
 (81, ⟨.pointer 108, .pointer none, 1, 8⟩),
 (82, ⟨.func #[] #[81] false, .nilFunc, 1, 8⟩),
 (83, ⟨.func #[26] #[] false, .nilFunc, 1, 8⟩),
 (84, ⟨.func #[58, 3] #[58] false, .nilFunc, 1, 8⟩),
 (85, ⟨.func #[23, 50] #[3] false, .nilFunc, 1, 8⟩),
 (86, ⟨.int .i64, .int .i64 0, 1, 8⟩),
 (88, ⟨.func #[9] #[74, 86] false, .nilFunc, 1, 8⟩),
 (89, ⟨.slice 100, .slice none 0 0, 1, 24⟩),
 (90, ⟨.struct #[Fl "L" 89 0 0, Fl "E" 3 1 24], .agg ⟨[.slice none 0 0, .int .i64 0]⟩, 2, 32⟩),
 (91, ⟨.struct #[Fl "L" 89 0 0, Fl "E" 3 1 24], .agg ⟨[.slice none 0 0, .int .i64 0]⟩, 2, 32⟩),
 (92, ⟨.func #[9] #[91] false, .nilFunc, 1, 8⟩),
 (93, ⟨.pointer 95, .pointer none, 1, 8⟩),
 (94, ⟨.struct #[Fl "l" 89 0 0, Fl "i" 3 1 24, Fl "deep" 3 2 32, Fl "e" 3 3 40, Fl "out" 74 4 48], .agg ⟨[.slice none 0 0, .int .i64 0, .int .i64 0, .int .i64 0, .slice none 0 0]⟩, 5, 72⟩),
 (95, ⟨.struct #[Fl "l" 89 0 0, Fl "i" 3 1 24, Fl "deep" 3 2 32, Fl "e" 3 3 40, Fl "out" 74 4 48], .agg ⟨[.slice none 0 0, .int .i64 0, .int .i64 0, .int .i64 0, .slice none 0 0]⟩, 5, 72⟩),
 (96, ⟨.func #[3] #[3] false, .nilFunc, 1, 8⟩),
 (97, ⟨.struct #[Fl "Sheet" 9 0 0, Fl "Col" 3 1 16, Fl "Row" 3 2 24, Fl "AbsCol" 4 3 32, Fl "AbsRow" 4 4 33], .agg ⟨[.string ⟨⟨[]⟩⟩, .int .i64 0, .int .i64 0, .bool false, .bool false]⟩, 5, 40⟩),
 (98, ⟨.struct #[Fl "Sheet" 9 0 0, Fl "Col" 3 1 16, Fl "Row" 3 2 24, Fl "AbsCol" 4 3 32, Fl "AbsRow" 4 4 33], .agg ⟨[.string ⟨⟨[]⟩⟩, .int .i64 0, .int .i64 0, .bool false, .bool false]⟩, 5, 40⟩),
 (99, ⟨.struct #[Fl "Kind" 3 0 0, Fl "Text" 9 1 8, Fl "Num" 3 2 24, Fl "Ref" 98 3 32, Fl "At" 3 8 72], .agg ⟨[.int .i64 0, .string ⟨⟨[]⟩⟩, .int .i64 0, .string ⟨⟨[]⟩⟩, .int .i64 0, .int .i64 0, .bool false, .bool false, .int .i64 0]⟩, 9, 80⟩),
 (100, ⟨.struct #[Fl "Kind" 3 0 0, Fl "Text" 9 1 8, Fl "Num" 3 2 24, Fl "Ref" 98 3 32, Fl "At" 3 8 72], .agg ⟨[.int .i64 0, .string ⟨⟨[]⟩⟩, .int .i64 0, .string ⟨⟨[]⟩⟩, .int .i64 0, .int .i64 0, .bool false, .bool false, .int .i64 0]⟩, 9, 80⟩),
 (101, ⟨.func #[3] #[] false, .nilFunc, 1, 8⟩),
 (102, ⟨.func #[74] #[4] false, .nilFunc, 1, 8⟩),
 (103, ⟨.func #[74, 3] #[9] false, .nilFunc, 1, 8⟩),
 (104, ⟨.func #[3, 3] #[3, 4] false, .nilFunc, 1, 8⟩),
 (105, ⟨.func #[138] #[26] true, .nilFunc, 1, 8⟩),
 (106, ⟨.array 8 58, .agg ⟨[.int .u32 0, .int .u32 0, .int .u32 0, .int .u32 0, .int .u32 0, .int .u32 0, .int .u32 0, .int .u32 0]⟩, 8, 32⟩),
 (107, ⟨.struct #[Fl "h" 106 0 0, Fl "rest" 26 8 32, Fl "n" 3 9 56], .agg ⟨[.int .u32 0, .int .u32 0, .int .u32 0, .int .u32 0, .int .u32 0, .int .u32 0, .int .u32 0, .int .u32 0, .slice none 0 0, .int .i64 0]⟩, 10, 64⟩),
 (108, ⟨.struct #[Fl "h" 106 0 0, Fl "rest" 26 8 32, Fl "n" 3 9 56], .agg ⟨[.int .u32 0, .int .u32 0, .int .u32 0, .int .u32 0, .int .u32 0, .int .u32 0, .int .u32 0, .int .u32 0, .slice none 0 0, .int .i64 0]⟩, 10, 64⟩),
 (109, ⟨.func #[26] #[26] false, .nilFunc, 1, 8⟩),
 (111, ⟨.func #[9] #[89, 86] false, .nilFunc, 1, 8⟩),
 (112, ⟨.int .i64, .int .i64 0, 1, 8⟩),
 (114, ⟨.pointer 116, .pointer none, 1, 8⟩),
 (115, ⟨.struct #[Fl "l" 89 0 0, Fl "at" 3 1 24, Fl "out" 74 2 32, Fl "deep" 3 3 56], .agg ⟨[.slice none 0 0, .int .i64 0, .slice none 0 0, .int .i64 0]⟩, 4, 64⟩),
 (116, ⟨.struct #[Fl "l" 89 0 0, Fl "at" 3 1 24, Fl "out" 74 2 32, Fl "deep" 3 3 56], .agg ⟨[.slice none 0 0, .int .i64 0, .slice none 0 0, .int .i64 0]⟩, 4, 64⟩),
 (117, ⟨.func #[] #[100] false, .nilFunc, 1, 8⟩),
 (118, ⟨.func #[86] #[] false, .nilFunc, 1, 8⟩),
 (119, ⟨.pointer 121, .pointer none, 1, 8⟩),
 (120, ⟨.struct #[Fl "l" 74 0 0, Fl "out" 26 1 24], .agg ⟨[.slice none 0 0, .slice none 0 0]⟩, 2, 48⟩),
 (121, ⟨.struct #[Fl "l" 74 0 0, Fl "out" 26 1 24], .agg ⟨[.slice none 0 0, .slice none 0 0]⟩, 2, 48⟩),
 (122, ⟨.interface #[("", 45)], .nilIface, 1, 16⟩),
 (123, ⟨.interface #[("", 45)], .nilIface, 1, 16⟩),
 (125, ⟨.func #[9] #[3, 123] false, .nilFunc, 1, 8⟩),
 (127, ⟨.func #[9, 3] #[100, 3] false, .nilFunc, 1, 8⟩),
 (128, ⟨.slice 3, .slice none 0 0, 1, 24⟩),
 (130, ⟨.func #[3] #[23, 128] false, .nilFunc, 1, 8⟩),
 (131, ⟨.func #[133] #[3] false, .nilFunc, 1, 8⟩),
 (132, ⟨.struct #[Fl "Kind" 3 0 0, Fl "Num" 3 1 8, Fl "Text" 9 2 16, Fl "Ref" 98 3 32, Fl "To" 98 8 72, Fl "Kids" 128 13 112], .agg ⟨[.int .i64 0, .int .i64 0, .string ⟨⟨[]⟩⟩, .string ⟨⟨[]⟩⟩, .int .i64 0, .int .i64 0, .bool false, .bool false, .string ⟨⟨[]⟩⟩, .int .i64 0, .int .i64 0, .bool false, .bool false, .slice none 0 0]⟩, 14, 136⟩),
 (133, ⟨.struct #[Fl "Kind" 3 0 0, Fl "Num" 3 1 8, Fl "Text" 9 2 16, Fl "Ref" 98 3 32, Fl "To" 98 8 72, Fl "Kids" 128 13 112], .agg ⟨[.int .i64 0, .int .i64 0, .string ⟨⟨[]⟩⟩, .string ⟨⟨[]⟩⟩, .int .i64 0, .int .i64 0, .bool false, .bool false, .string ⟨⟨[]⟩⟩, .int .i64 0, .int .i64 0, .bool false, .bool false, .slice none 0 0]⟩, 14, 136⟩),
 (134, ⟨.func #[133] #[4] false, .nilFunc, 1, 8⟩),
 (135, ⟨.func #[9] #[9] false, .nilFunc, 1, 8⟩),
 (136, ⟨.func #[98] #[9] false, .nilFunc, 1, 8⟩),
 (137, ⟨.func #[9, 4] #[9] false, .nilFunc, 1, 8⟩),
 (138, ⟨.slice 26, .slice none 0 0, 1, 24⟩),
 (139, ⟨.func #[26, 3] #[26] false, .nilFunc, 1, 8⟩),
 (140, ⟨.array 64 58, .agg ⟨List.replicate 64 (.int .u32 0)⟩, 64, 256⟩),
 (141, ⟨.func #[] #[140] false, .nilFunc, 1, 8⟩),
 (142, ⟨.func #[58, 3, 3, 3] #[58] false, .nilFunc, 1, 8⟩),
 (143, ⟨.pointer 145, .pointer none, 1, 8⟩),
 (144, ⟨.struct #[Fl "s" 9 0 0, Fl "at" 3 1 16], .agg ⟨[.string ⟨⟨[]⟩⟩, .int .i64 0]⟩, 2, 24⟩),
 (145, ⟨.struct #[Fl "s" 9 0 0, Fl "at" 3 1 16], .agg ⟨[.string ⟨⟨[]⟩⟩, .int .i64 0]⟩, 2, 24⟩),
 (146, ⟨.func #[73] #[9] false, .nilFunc, 1, 8⟩),
 (148, ⟨.func #[143] #[100, 4] false, .nilFunc, 1, 8⟩),
 (149, ⟨.func #[5] #[148] false, .nilFunc, 1, 8⟩),
 (150, ⟨.func #[152] #[3] false, .nilFunc, 1, 8⟩),
 (151, ⟨.struct #[Fl "below" 43 0 0, Fl "signs" 23 1 8, Fl "kinds" 128 2 32], .agg ⟨[.nilFunc, .slice none 0 0, .slice none 0 0]⟩, 3, 56⟩),
 (152, ⟨.struct #[Fl "below" 43 0 0, Fl "signs" 23 1 8, Fl "kinds" 128 2 32], .agg ⟨[.nilFunc, .slice none 0 0, .slice none 0 0]⟩, 3, 56⟩),
 (153, ⟨.func #[128, 128] #[4] false, .nilFunc, 1, 8⟩),
 (154, ⟨.func #[119, 133] #[] false, .nilFunc, 1, 8⟩),
 (155, ⟨.func #[133] #[] false, .nilFunc, 1, 8⟩),
 (156, ⟨.func #[9, 9, 3, 3, 123] #[123] false, .nilFunc, 1, 8⟩),
 (157, ⟨.func #[2, 3] #[9] false, .nilFunc, 1, 8⟩),
 (158, ⟨.func #[9, 3] #[9] false, .nilFunc, 1, 8⟩),
 (159, ⟨.func #[98] #[4] false, .nilFunc, 1, 8⟩),
 (161, ⟨.func #[9] #[98, 4] false, .nilFunc, 1, 8⟩),
 (162, ⟨.func #[98, 98] #[4] false, .nilFunc, 1, 8⟩),
 (163, ⟨.func #[] #[100, 4] false, .nilFunc, 1, 8⟩),
 (164, ⟨.func #[23, 9] #[3] false, .nilFunc, 1, 8⟩),
 (165, ⟨.func #[9] #[] false, .nilFunc, 1, 8⟩),
 (166, ⟨.func #[9, 9, 9] #[9] false, .nilFunc, 1, 8⟩),
 (167, ⟨.func #[3, 3] #[] false, .nilFunc, 1, 8⟩),
 (169, ⟨.func #[3] #[9, 3] false, .nilFunc, 1, 8⟩),
 (170, ⟨.int .i64, .int .i64 0, 1, 8⟩),
 (172, ⟨.func #[9, 3, 3] #[2, 123] false, .nilFunc, 1, 8⟩),
 (173, ⟨.pointer 189, .pointer none, 1, 8⟩),
 (174, ⟨.func #[9, 9] #[173] false, .nilFunc, 1, 8⟩),
 (175, ⟨.func #[9, 9, 3] #[173] false, .nilFunc, 1, 8⟩),
 (176, ⟨.array 24 5, .agg ⟨List.replicate 24 (.int .u8 0)⟩, 24, 24⟩),
 (177, ⟨.func #[56] #[3] false, .nilFunc, 1, 8⟩),
 (178, ⟨.func #[26, 56] #[] false, .nilFunc, 1, 8⟩),
 (180, ⟨.func #[26, 56, 3, 4, 4] #[26, 9] false, .nilFunc, 1, 8⟩),
 (181, ⟨.func #[98] #[3] false, .nilFunc, 1, 8⟩),
 (182, ⟨.func #[9] #[3] false, .nilFunc, 1, 8⟩),
 (183, ⟨.func #[9, 9] #[4] false, .nilFunc, 1, 8⟩),
 (184, ⟨.func #[9, 9, 9, 3] #[9] false, .nilFunc, 1, 8⟩),
 (185, ⟨.func #[4] #[9] false, .nilFunc, 1, 8⟩),
 (187, ⟨.func #[9, 3, 3] #[56, 123] false, .nilFunc, 1, 8⟩),
 (188, ⟨.struct #[Fl "Func" 9 0 0, Fl "Num" 9 1 16, Fl "Err" 123 2 32], .agg ⟨[.string ⟨⟨[]⟩⟩, .string ⟨⟨[]⟩⟩, .nilIface]⟩, 3, 48⟩),
 (189, ⟨.struct #[Fl "Func" 9 0 0, Fl "Num" 9 1 16, Fl "Err" 123 2 32], .agg ⟨[.string ⟨⟨[]⟩⟩, .string ⟨⟨[]⟩⟩, .nilIface]⟩, 3, 48⟩),
 (190, ⟨.func #[9] #[123] false, .nilFunc, 1, 8⟩),
 (191, ⟨.func #[4] #[3] false, .nilFunc, 1, 8⟩),
 (192, ⟨.array 20 56, .agg ⟨List.replicate 20 (.int .u64 0)⟩, 20, 160⟩),
 (193, ⟨.array 65 5, .agg ⟨List.replicate 65 (.int .u8 0)⟩, 65, 65⟩),
 (194, ⟨.func #[3] #[4] false, .nilFunc, 1, 8⟩),
 (195, ⟨.func #[57] #[3] false, .nilFunc, 1, 8⟩),
 (196, ⟨.pointer 198, .pointer none, 1, 8⟩),
 (197, ⟨.struct #[Fl "s" 9 0 0], .agg ⟨[.string ⟨⟨[]⟩⟩]⟩, 1, 16⟩),
 (198, ⟨.struct #[Fl "s" 9 0 0], .agg ⟨[.string ⟨⟨[]⟩⟩]⟩, 1, 16⟩),
 (200, ⟨.func #[9, 9] #[9, 9, 4] false, .nilFunc, 1, 8⟩),
 (201, ⟨.func #[9, 9] #[3] false, .nilFunc, 1, 8⟩),
 (202, ⟨.pointer 204, .pointer none, 1, 8⟩),
 (203, ⟨.struct #[Fl "addr" 202 0 0, Fl "buf" 26 1 8], .agg ⟨[.pointer none, .slice none 0 0]⟩, 2, 32⟩),
 (204, ⟨.struct #[Fl "addr" 202 0 0, Fl "buf" 26 1 8], .agg ⟨[.pointer none, .slice none 0 0]⟩, 2, 32⟩),
 (206, ⟨.func #[9] #[21, 3] false, .nilFunc, 1, 8⟩),
 (207, ⟨.func #[5] #[5] false, .nilFunc, 1, 8⟩),
 (208, ⟨.pointer 5, .pointer none, 1, 8⟩),
 (209, ⟨.pointer 211, .pointer none, 1, 8⟩),
 (210, ⟨.struct #[Fl "s" 9 0 0], .agg ⟨[.string ⟨⟨[]⟩⟩]⟩, 1, 16⟩),
 (211, ⟨.struct #[Fl "s" 9 0 0], .agg ⟨[.string ⟨⟨[]⟩⟩]⟩, 1, 16⟩),
 (212, ⟨.func #[58] #[3] false, .nilFunc, 1, 8⟩),
 (214, ⟨.func #[9, 9] #[9, 4] false, .nilFunc, 1, 8⟩),
 (215, ⟨.func #[9, 5] #[3] false, .nilFunc, 1, 8⟩),
 (216, ⟨.array 32 5, .agg ⟨List.replicate 32 (.int .u8 0)⟩, 32, 32⟩),
 (217, ⟨.array 64 5, .agg ⟨List.replicate 64 (.int .u8 0)⟩, 64, 64⟩),
 (220, ⟨.array 256 5, .agg ⟨List.replicate 256 (.int .u8 0)⟩, 256, 256⟩),
 (221, ⟨.struct #[Fl "lo" 5 0 0, Fl "hi" 5 1 1], .agg ⟨[.int .u8 0, .int .u8 0]⟩, 2, 2⟩),
 (222, ⟨.struct #[Fl "lo" 5 0 0, Fl "hi" 5 1 1], .agg ⟨[.int .u8 0, .int .u8 0]⟩, 2, 2⟩),
 (223, ⟨.array 16 222, .agg ⟨[.int .u8 0, .int .u8 0, .int .u8 0, .int .u8 0, .int .u8 0, .int .u8 0, .int .u8 0, .int .u8 0, .int .u8 0, .int .u8 0, .int .u8 0, .int .u8 0, .int .u8 0, .int .u8 0, .int .u8 0, .int .u8 0, .int .u8 0, .int .u8 0, .int .u8 0, .int .u8 0, .int .u8 0, .int .u8 0, .int .u8 0, .int .u8 0, .int .u8 0, .int .u8 0, .int .u8 0, .int .u8 0, .int .u8 0, .int .u8 0, .int .u8 0, .int .u8 0]⟩, 32, 32⟩),
 (225, ⟨.func #[9] #[58, 58] false, .nilFunc, 1, 8⟩),
 (238, ⟨.func #[] #[5] false, .nilFunc, 1, 8⟩)]
theorem rows_ok : RowsOk Tryz.prog rows := by
 unfold rows
 refine TyC ?_ Tryz.underlying1
 refine TyC ?_ Tryz.underlying2
 refine TyC ?_ Tryz.underlying3
 refine TyC ?_ Tryz.underlying4
 refine TyC ?_ Tryz.underlying5
 refine TyC ?_ Tryz.underlying9
 refine TyC ?_ Tryz.underlying12
 refine TyC ?_ Tryz.underlying13
 refine TyC ?_ Tryz.underlying20
 refine TyC ?_ Tryz.underlying21
 refine TyC ?_ Tryz.underlying22
 refine TyC ?_ Tryz.underlying23
 refine TyC ?_ Tryz.underlying24
 refine TyC ?_ Tryz.underlying25
 refine TyC ?_ Tryz.underlying26
 refine TyC ?_ Tryz.underlying27
 refine TyC ?_ Tryz.underlying28
 refine TyC ?_ Tryz.underlying30
 refine TyC ?_ Tryz.underlying31
 refine TyC ?_ Tryz.underlying32
 refine TyC ?_ Tryz.underlying33
 refine TyC ?_ Tryz.underlying34
 refine TyC ?_ Tryz.underlying35
 refine TyC ?_ Tryz.underlying36
 refine TyC ?_ Tryz.underlying37
 refine TyC ?_ Tryz.underlying38
 refine TyC ?_ Tryz.underlying39
 refine TyC ?_ Tryz.underlying40
 refine TyC ?_ Tryz.underlying41
 refine TyC ?_ Tryz.underlying42
 refine TyC ?_ Tryz.underlying43
 refine TyC ?_ Tryz.underlying44
 refine TyC ?_ Tryz.underlying45
 refine TyC ?_ Tryz.underlying46
 refine TyC ?_ Tryz.underlying47
 refine TyC ?_ Tryz.underlying48
 refine TyC ?_ Tryz.underlying49
 refine TyC ?_ Tryz.underlying50
 refine TyC ?_ Tryz.underlying51
 refine TyC ?_ Tryz.underlying52
 refine TyC ?_ Tryz.underlying53
 refine TyC ?_ Tryz.underlying54
 refine TyC ?_ Tryz.underlying55
 refine TyC ?_ Tryz.underlying56
 refine TyC ?_ Tryz.underlying57
 refine TyC ?_ Tryz.underlying58
 refine TyC ?_ Tryz.underlying59
 refine TyC ?_ Tryz.underlying60
 refine TyC ?_ Tryz.underlying61
 refine TyC ?_ Tryz.underlying62
 refine TyC ?_ Tryz.underlying63
 refine TyC ?_ Tryz.underlying64
 refine TyC ?_ Tryz.underlying65
 refine TyC ?_ Tryz.underlying66
 refine TyC ?_ Tryz.underlying67
 refine TyC ?_ Tryz.underlying68
 refine TyC ?_ Tryz.underlying72
 refine TyC ?_ Tryz.underlying73
 refine TyC ?_ Tryz.underlying74
 refine TyC ?_ Tryz.underlying75
 refine TyC ?_ Tryz.underlying76
 refine TyC ?_ Tryz.underlying77
 refine TyC ?_ Tryz.underlying78
 refine TyC ?_ Tryz.underlying80
 refine TyC ?_ Tryz.underlying81
 refine TyC ?_ Tryz.underlying82
 refine TyC ?_ Tryz.underlying83
 refine TyC ?_ Tryz.underlying84
 refine TyC ?_ Tryz.underlying85
 refine TyC ?_ Tryz.underlying86
 refine TyC ?_ Tryz.underlying88
 refine TyC ?_ Tryz.underlying89
 refine TyC ?_ Tryz.underlying90
 refine TyC ?_ Tryz.underlying91
 refine TyC ?_ Tryz.underlying92
 refine TyC ?_ Tryz.underlying93
 refine TyC ?_ Tryz.underlying94
 refine TyC ?_ Tryz.underlying95
 refine TyC ?_ Tryz.underlying96
 refine TyC ?_ Tryz.underlying97
 refine TyC ?_ Tryz.underlying98
 refine TyC ?_ Tryz.underlying99
 refine TyC ?_ Tryz.underlying100
 refine TyC ?_ Tryz.underlying101
 refine TyC ?_ Tryz.underlying102
 refine TyC ?_ Tryz.underlying103
 refine TyC ?_ Tryz.underlying104
 refine TyC ?_ Tryz.underlying105
 refine TyC ?_ Tryz.underlying106
 refine TyC ?_ Tryz.underlying107
 refine TyC ?_ Tryz.underlying108
 refine TyC ?_ Tryz.underlying109
 refine TyC ?_ Tryz.underlying111
 refine TyC ?_ Tryz.underlying112
 refine TyC ?_ Tryz.underlying114
 refine TyC ?_ Tryz.underlying115
 refine TyC ?_ Tryz.underlying116
 refine TyC ?_ Tryz.underlying117
 refine TyC ?_ Tryz.underlying118
 refine TyC ?_ Tryz.underlying119
 refine TyC ?_ Tryz.underlying120
 refine TyC ?_ Tryz.underlying121
 refine TyC ?_ Tryz.underlying122
 refine TyC ?_ Tryz.underlying123
 refine TyC ?_ Tryz.underlying125
 refine TyC ?_ Tryz.underlying127
 refine TyC ?_ Tryz.underlying128
 refine TyC ?_ Tryz.underlying130
 refine TyC ?_ Tryz.underlying131
 refine TyC ?_ Tryz.underlying132
 refine TyC ?_ Tryz.underlying133
 refine TyC ?_ Tryz.underlying134
 refine TyC ?_ Tryz.underlying135
 refine TyC ?_ Tryz.underlying136
 refine TyC ?_ Tryz.underlying137
 refine TyC ?_ Tryz.underlying138
 refine TyC ?_ Tryz.underlying139
 refine TyC ?_ Tryz.underlying140
 refine TyC ?_ Tryz.underlying141
 refine TyC ?_ Tryz.underlying142
 refine TyC ?_ Tryz.underlying143
 refine TyC ?_ Tryz.underlying144
 refine TyC ?_ Tryz.underlying145
 refine TyC ?_ Tryz.underlying146
 refine TyC ?_ Tryz.underlying148
 refine TyC ?_ Tryz.underlying149
 refine TyC ?_ Tryz.underlying150
 refine TyC ?_ Tryz.underlying151
 refine TyC ?_ Tryz.underlying152
 refine TyC ?_ Tryz.underlying153
 refine TyC ?_ Tryz.underlying154
 refine TyC ?_ Tryz.underlying155
 refine TyC ?_ Tryz.underlying156
 refine TyC ?_ Tryz.underlying157
 refine TyC ?_ Tryz.underlying158
 refine TyC ?_ Tryz.underlying159
 refine TyC ?_ Tryz.underlying161
 refine TyC ?_ Tryz.underlying162
 refine TyC ?_ Tryz.underlying163
 refine TyC ?_ Tryz.underlying164
 refine TyC ?_ Tryz.underlying165
 refine TyC ?_ Tryz.underlying166
 refine TyC ?_ Tryz.underlying167
 refine TyC ?_ Tryz.underlying169
 refine TyC ?_ Tryz.underlying170
 refine TyC ?_ Tryz.underlying172
 refine TyC ?_ Tryz.underlying173
 refine TyC ?_ Tryz.underlying174
 refine TyC ?_ Tryz.underlying175
 refine TyC ?_ Tryz.underlying176
 refine TyC ?_ Tryz.underlying177
 refine TyC ?_ Tryz.underlying178
 refine TyC ?_ Tryz.underlying180
 refine TyC ?_ Tryz.underlying181
 refine TyC ?_ Tryz.underlying182
 refine TyC ?_ Tryz.underlying183
 refine TyC ?_ Tryz.underlying184
 refine TyC ?_ Tryz.underlying185
 refine TyC ?_ Tryz.underlying187
 refine TyC ?_ Tryz.underlying188
 refine TyC ?_ Tryz.underlying189
 refine TyC ?_ Tryz.underlying190
 refine TyC ?_ Tryz.underlying191
 refine TyC ?_ Tryz.underlying192
 refine TyC ?_ Tryz.underlying193
 refine TyC ?_ Tryz.underlying194
 refine TyC ?_ Tryz.underlying195
 refine TyC ?_ Tryz.underlying196
 refine TyC ?_ Tryz.underlying197
 refine TyC ?_ Tryz.underlying198
 refine TyC ?_ Tryz.underlying200
 refine TyC ?_ Tryz.underlying201
 refine TyC ?_ Tryz.underlying202
 refine TyC ?_ Tryz.underlying203
 refine TyC ?_ Tryz.underlying204
 refine TyC ?_ Tryz.underlying206
 refine TyC ?_ Tryz.underlying207
 refine TyC ?_ Tryz.underlying208
 refine TyC ?_ Tryz.underlying209
 refine TyC ?_ Tryz.underlying210
 refine TyC ?_ Tryz.underlying211
 refine TyC ?_ Tryz.underlying212
 refine TyC ?_ Tryz.underlying214
 refine TyC ?_ Tryz.underlying215
 refine TyC ?_ Tryz.underlying216
 refine TyC ?_ Tryz.underlying217
 refine TyC ?_ Tryz.underlying220
 refine TyC ?_ Tryz.underlying221
 refine TyC ?_ Tryz.underlying222
 refine TyC ?_ Tryz.underlying223
 refine TyC ?_ Tryz.underlying225
 refine TyC ?_ Tryz.underlying238
 exact TyN
instance tab : Tab Tryz.prog := ⟨lookT rows, lookT_ok rows_ok⟩
end Go.Proofs.YtgdohpcnpgjpaaaGreatDoor
