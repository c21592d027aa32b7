/-
  The table of the types of this seat's translation. Printed by gentab.py.
-/
import Derived.Test.YtefaigjfkddelaaGreatDoorChecked
import Derived.Test.YtefaigjfkddelaaGreatDoorTy
namespace Go.Proofs.YtefaigjfkddelaaGreatDoor
open Go Go.E
set_option maxRecDepth 100000
def rows0 : List (Nat × TRow) := [ (1, ⟨.func #[] #[] false, .nilFunc, 1, 8⟩),
 (2, ⟨.int .i64, .int .i64 0, 1, 8⟩),
 (3, ⟨.int .i64, .int .i64 0, 1, 8⟩),
 (4, ⟨.bool, .bool false, 1, 1⟩),
 (5, ⟨.int .u8, .int .u8 0, 1, 1⟩),
 (9, ⟨.string, .string ⟨⟨[]⟩⟩, 1, 16⟩),
 (12, ⟨.int .u64, .int .u64 0, 1, 8⟩),
 (13, ⟨.struct #[Fl "msg" 9 0 0, Fl "addr" 12 1 16], .agg ⟨[.string ⟨⟨[]⟩⟩, .int .u64 0]⟩, 2, 24⟩)]
theorem rok0 : RowsOk Tryz.prog rows0 := by
 unfold rows0
 refine TyC ?_ Tryz.underlying1
 refine TyC ?_ Tryz.underlying2
 refine TyC ?_ Tryz.underlying3
 refine TyC ?_ Tryz.underlying4
 refine TyC ?_ Tryz.underlying5
 refine TyC ?_ Tryz.underlying9
 refine TyC ?_ Tryz.underlying12
 refine TyC ?_ Tryz.underlying13
 exact TyN
def rows1 : List (Nat × TRow) := [ (20, ⟨.interface #[], .nilIface, 1, 16⟩),
 (21, ⟨.int .i32, .int .i32 0, 1, 4⟩),
 (22, ⟨.slice 31, .slice none 0 0, 1, 24⟩),
 (23, ⟨.func #[22] #[4] false, .nilFunc, 1, 8⟩),
 (24, ⟨.func #[] #[4] false, .nilFunc, 1, 8⟩),
 (25, ⟨.func #[29] #[4] false, .nilFunc, 1, 8⟩),
 (26, ⟨.slice 9, .slice none 0 0, 1, 24⟩),
 (27, ⟨.slice 41, .slice none 0 0, 1, 24⟩),
 (28, ⟨.struct #[Fl "Sheets" 27 0 0], .agg ⟨[.slice none 0 0]⟩, 1, 24⟩),
 (29, ⟨.struct #[Fl "Sheets" 27 0 0], .agg ⟨[.slice none 0 0]⟩, 1, 24⟩),
 (30, ⟨.struct #[Fl "Id" 9 0 0, Fl "Parents" 26 1 16, Fl "Book" 29 2 40, Fl "Note" 9 3 64], .agg ⟨[.string ⟨⟨[]⟩⟩, .slice none 0 0, .slice none 0 0, .string ⟨⟨[]⟩⟩]⟩, 4, 80⟩),
 (31, ⟨.struct #[Fl "Id" 9 0 0, Fl "Parents" 26 1 16, Fl "Book" 29 2 40, Fl "Note" 9 3 64], .agg ⟨[.string ⟨⟨[]⟩⟩, .slice none 0 0, .slice none 0 0, .string ⟨⟨[]⟩⟩]⟩, 4, 80⟩)]
theorem rok1 : RowsOk Tryz.prog rows1 := by
 unfold rows1
 refine TyC ?_ Tryz.underlying20
 refine TyC ?_ Tryz.underlying21
 refine TyC ?_ Tryz.underlying22
 refine TyC ?_ Tryz.underlying23
 refine TyC ?_ Tryz.underlying24
 refine TyC ?_ Tryz.underlying25
 refine TyC ?_ Tryz.underlying26
 refine TyC ?_ Tryz.underlying27
 refine TyC ?_ Tryz.underlying28
 refine TyC ?_ Tryz.underlying29
 refine TyC ?_ Tryz.underlying30
 refine TyC ?_ Tryz.underlying31
 exact TyN
def rows2 : List (Nat × TRow) := [ (32, ⟨.func #[33, 33] #[4] false, .nilFunc, 1, 8⟩),
 (33, ⟨.slice 39, .slice none 0 0, 1, 24⟩),
 (34, ⟨.func #[22, 9] #[33] false, .nilFunc, 1, 8⟩),
 (35, ⟨.func #[22, 9] #[4] false, .nilFunc, 1, 8⟩),
 (36, ⟨.slice 5, .slice none 0 0, 1, 24⟩),
 (37, ⟨.func #[36, 36, 5, 36] #[22] false, .nilFunc, 1, 8⟩),
 (38, ⟨.func #[36, 36, 5, 36, 5] #[4] false, .nilFunc, 1, 8⟩),
 (39, ⟨.slice 26, .slice none 0 0, 1, 24⟩),
 (40, ⟨.struct #[Fl "Name" 9 0 0, Fl "Cols" 3 1 16, Fl "Rows" 39 2 24], .agg ⟨[.string ⟨⟨[]⟩⟩, .int .i64 0, .slice none 0 0]⟩, 3, 48⟩),
 (41, ⟨.struct #[Fl "Name" 9 0 0, Fl "Cols" 3 1 16, Fl "Rows" 39 2 24], .agg ⟨[.string ⟨⟨[]⟩⟩, .int .i64 0, .slice none 0 0]⟩, 3, 48⟩),
 (42, ⟨.func #[3] #[9] false, .nilFunc, 1, 8⟩),
 (43, ⟨.func #[29] #[29] false, .nilFunc, 1, 8⟩),
 (44, ⟨.func #[36] #[4] false, .nilFunc, 1, 8⟩),
 (45, ⟨.func #[5, 5] #[4] false, .nilFunc, 1, 8⟩),
 (46, ⟨.func #[22, 9] #[3] false, .nilFunc, 1, 8⟩),
 (47, ⟨.func #[41] #[4] false, .nilFunc, 1, 8⟩)]
theorem rok2 : RowsOk Tryz.prog rows2 := by
 unfold rows2
 refine TyC ?_ Tryz.underlying32
 refine TyC ?_ Tryz.underlying33
 refine TyC ?_ Tryz.underlying34
 refine TyC ?_ Tryz.underlying35
 refine TyC ?_ Tryz.underlying36
 refine TyC ?_ Tryz.underlying37
 refine TyC ?_ Tryz.underlying38
 refine TyC ?_ Tryz.underlying39
 refine TyC ?_ Tryz.underlying40
 refine TyC ?_ Tryz.underlying41
 refine TyC ?_ Tryz.underlying42
 refine TyC ?_ Tryz.underlying43
 refine TyC ?_ Tryz.underlying44
 refine TyC ?_ Tryz.underlying45
 refine TyC ?_ Tryz.underlying46
 refine TyC ?_ Tryz.underlying47
 exact TyN
def rows3 : List (Nat × TRow) := [ (48, ⟨.func #[26, 26] #[4] false, .nilFunc, 1, 8⟩),
 (49, ⟨.func #[22, 50] #[4] false, .nilFunc, 1, 8⟩),
 (50, ⟨.func #[31] #[4] false, .nilFunc, 1, 8⟩),
 (51, ⟨.func #[22, 9] #[26] false, .nilFunc, 1, 8⟩),
 (52, ⟨.func #[26] #[] false, .nilFunc, 1, 8⟩),
 (53, ⟨.func #[22, 50] #[3] false, .nilFunc, 1, 8⟩),
 (54, ⟨.func #[29, 9] #[33] false, .nilFunc, 1, 8⟩),
 (55, ⟨.pointer 58, .pointer none, 1, 8⟩),
 (56, ⟨.slice 73, .slice none 0 0, 1, 24⟩),
 (57, ⟨.struct #[Fl "p" 29 0 0, Fl "c" 29 1 24, Fl "shifts" 56 2 48], .agg ⟨[.slice none 0 0, .slice none 0 0, .slice none 0 0]⟩, 3, 72⟩),
 (58, ⟨.struct #[Fl "p" 29 0 0, Fl "c" 29 1 24, Fl "shifts" 56 2 48], .agg ⟨[.slice none 0 0, .slice none 0 0, .slice none 0 0]⟩, 3, 72⟩),
 (59, ⟨.func #[33, 33] #[] false, .nilFunc, 1, 8⟩),
 (60, ⟨.func #[31, 31, 33] #[33] false, .nilFunc, 1, 8⟩),
 (61, ⟨.func #[36] #[22] false, .nilFunc, 1, 8⟩),
 (62, ⟨.func #[36, 5] #[29] false, .nilFunc, 1, 8⟩),
 (63, ⟨.func #[29, 36] #[29] false, .nilFunc, 1, 8⟩)]
theorem rok3 : RowsOk Tryz.prog rows3 := by
 unfold rows3
 refine TyC ?_ Tryz.underlying48
 refine TyC ?_ Tryz.underlying49
 refine TyC ?_ Tryz.underlying50
 refine TyC ?_ Tryz.underlying51
 refine TyC ?_ Tryz.underlying52
 refine TyC ?_ Tryz.underlying53
 refine TyC ?_ Tryz.underlying54
 refine TyC ?_ Tryz.underlying55
 refine TyC ?_ Tryz.underlying56
 refine TyC ?_ Tryz.underlying57
 refine TyC ?_ Tryz.underlying58
 refine TyC ?_ Tryz.underlying59
 refine TyC ?_ Tryz.underlying60
 refine TyC ?_ Tryz.underlying61
 refine TyC ?_ Tryz.underlying62
 refine TyC ?_ Tryz.underlying63
 exact TyN
def rows4 : List (Nat × TRow) := [ (64, ⟨.int .u64, .int .u64 0, 1, 8⟩),
 (65, ⟨.func #[41] #[41] false, .nilFunc, 1, 8⟩),
 (66, ⟨.func #[9] #[4] false, .nilFunc, 1, 8⟩),
 (67, ⟨.func #[26, 3] #[26] false, .nilFunc, 1, 8⟩),
 (68, ⟨.func #[29, 9] #[3] false, .nilFunc, 1, 8⟩),
 (69, ⟨.slice 3, .slice none 0 0, 1, 24⟩),
 (70, ⟨.struct #[Fl "To" 69 0 0, Fl "New" 3 1 24], .agg ⟨[.slice none 0 0, .int .i64 0]⟩, 2, 32⟩),
 (71, ⟨.struct #[Fl "To" 69 0 0, Fl "New" 3 1 24], .agg ⟨[.slice none 0 0, .int .i64 0]⟩, 2, 32⟩),
 (72, ⟨.struct #[Fl "Sheet" 9 0 0, Fl "Rows" 71 1 16, Fl "Cols" 71 3 48, Fl "Gone" 4 5 80], .agg ⟨[.string ⟨⟨[]⟩⟩, .slice none 0 0, .int .i64 0, .slice none 0 0, .int .i64 0, .bool false]⟩, 6, 88⟩),
 (73, ⟨.struct #[Fl "Sheet" 9 0 0, Fl "Rows" 71 1 16, Fl "Cols" 71 3 48, Fl "Gone" 4 5 80], .agg ⟨[.string ⟨⟨[]⟩⟩, .slice none 0 0, .int .i64 0, .slice none 0 0, .int .i64 0, .bool false]⟩, 6, 88⟩),
 (74, ⟨.func #[41, 41] #[73] false, .nilFunc, 1, 8⟩),
 (75, ⟨.func #[71, 3] #[3] false, .nilFunc, 1, 8⟩),
 (76, ⟨.func #[9, 9, 56] #[9] false, .nilFunc, 1, 8⟩),
 (77, ⟨.func #[41, 36] #[41] false, .nilFunc, 1, 8⟩),
 (78, ⟨.func #[5] #[4] false, .nilFunc, 1, 8⟩),
 (79, ⟨.slice 139, .slice none 0 0, 1, 24⟩)]
theorem rok4 : RowsOk Tryz.prog rows4 := by
 unfold rows4
 refine TyC ?_ Tryz.underlying64
 refine TyC ?_ Tryz.underlying65
 refine TyC ?_ Tryz.underlying66
 refine TyC ?_ Tryz.underlying67
 refine TyC ?_ Tryz.underlying68
 refine TyC ?_ Tryz.underlying69
 refine TyC ?_ Tryz.underlying70
 refine TyC ?_ Tryz.underlying71
 refine TyC ?_ Tryz.underlying72
 refine TyC ?_ Tryz.underlying73
 refine TyC ?_ Tryz.underlying74
 refine TyC ?_ Tryz.underlying75
 refine TyC ?_ Tryz.underlying76
 refine TyC ?_ Tryz.underlying77
 refine TyC ?_ Tryz.underlying78
 refine TyC ?_ Tryz.underlying79
 exact TyN
def rows5 : List (Nat × TRow) := [ (80, ⟨.struct #[Fl "L" 79 0 0, Fl "E" 3 1 24], .agg ⟨[.slice none 0 0, .int .i64 0]⟩, 2, 32⟩),
 (81, ⟨.struct #[Fl "L" 79 0 0, Fl "E" 3 1 24], .agg ⟨[.slice none 0 0, .int .i64 0]⟩, 2, 32⟩),
 (82, ⟨.func #[9] #[81] false, .nilFunc, 1, 8⟩),
 (83, ⟨.func #[79] #[9] false, .nilFunc, 1, 8⟩),
 (85, ⟨.func #[9] #[3, 4] false, .nilFunc, 1, 8⟩),
 (86, ⟨.int .u64, .int .u64 0, 1, 8⟩),
 (88, ⟨.func #[86, 86] #[86, 86] false, .nilFunc, 1, 8⟩),
 (89, ⟨.func #[27, 47] #[3] false, .nilFunc, 1, 8⟩),
 (90, ⟨.func #[41, 41] #[71] false, .nilFunc, 1, 8⟩),
 (91, ⟨.func #[41, 41, 71] #[71] false, .nilFunc, 1, 8⟩),
 (93, ⟨.func #[9] #[79, 4] false, .nilFunc, 1, 8⟩),
 (94, ⟨.func #[79, 9, 56] #[79] false, .nilFunc, 1, 8⟩),
 (95, ⟨.struct #[Fl "Kind" 3 0 0, Fl "Sheet" 9 1 8, Fl "At" 3 2 24, Fl "Col" 3 3 32, Fl "N" 3 4 40, Fl "Text" 9 5 48], .agg ⟨[.int .i64 0, .string ⟨⟨[]⟩⟩, .int .i64 0, .int .i64 0, .int .i64 0, .string ⟨⟨[]⟩⟩]⟩, 6, 64⟩)]
theorem rok5 : RowsOk Tryz.prog rows5 := by
 unfold rows5
 refine TyC ?_ Tryz.underlying80
 refine TyC ?_ Tryz.underlying81
 refine TyC ?_ Tryz.underlying82
 refine TyC ?_ Tryz.underlying83
 refine TyC ?_ Tryz.underlying85
 refine TyC ?_ Tryz.underlying86
 refine TyC ?_ Tryz.underlying88
 refine TyC ?_ Tryz.underlying89
 refine TyC ?_ Tryz.underlying90
 refine TyC ?_ Tryz.underlying91
 refine TyC ?_ Tryz.underlying93
 refine TyC ?_ Tryz.underlying94
 refine TyC ?_ Tryz.underlying95
 exact TyN
def rows6 : List (Nat × TRow) := [ (96, ⟨.struct #[Fl "Kind" 3 0 0, Fl "Sheet" 9 1 8, Fl "At" 3 2 24, Fl "Col" 3 3 32, Fl "N" 3 4 40, Fl "Text" 9 5 48], .agg ⟨[.int .i64 0, .string ⟨⟨[]⟩⟩, .int .i64 0, .int .i64 0, .int .i64 0, .string ⟨⟨[]⟩⟩]⟩, 6, 64⟩),
 (98, ⟨.func #[29, 100, 9] #[29, 3] false, .nilFunc, 1, 8⟩),
 (99, ⟨.struct #[Fl "Sheet" 9 0 0, Fl "Row" 3 1 16, Fl "Col" 3 2 24], .agg ⟨[.string ⟨⟨[]⟩⟩, .int .i64 0, .int .i64 0]⟩, 3, 32⟩),
 (100, ⟨.struct #[Fl "Sheet" 9 0 0, Fl "Row" 3 1 16, Fl "Col" 3 2 24], .agg ⟨[.string ⟨⟨[]⟩⟩, .int .i64 0, .int .i64 0]⟩, 3, 32⟩),
 (101, ⟨.struct #[Fl "B" 29 0 0, Fl "S" 73 1 24, Fl "E" 3 7 112], .agg ⟨[.slice none 0 0, .string ⟨⟨[]⟩⟩, .slice none 0 0, .int .i64 0, .slice none 0 0, .int .i64 0, .bool false, .int .i64 0]⟩, 8, 120⟩),
 (102, ⟨.struct #[Fl "B" 29 0 0, Fl "S" 73 1 24, Fl "E" 3 7 112], .agg ⟨[.slice none 0 0, .string ⟨⟨[]⟩⟩, .slice none 0 0, .int .i64 0, .slice none 0 0, .int .i64 0, .bool false, .int .i64 0]⟩, 8, 120⟩),
 (103, ⟨.func #[29, 96] #[102] false, .nilFunc, 1, 8⟩),
 (104, ⟨.slice 115, .slice none 0 0, 1, 24⟩),
 (105, ⟨.struct #[Fl "L" 104 0 0, Fl "E" 3 1 24], .agg ⟨[.slice none 0 0, .int .i64 0]⟩, 2, 32⟩),
 (106, ⟨.struct #[Fl "L" 104 0 0, Fl "E" 3 1 24], .agg ⟨[.slice none 0 0, .int .i64 0]⟩, 2, 32⟩),
 (107, ⟨.func #[9] #[106] false, .nilFunc, 1, 8⟩),
 (108, ⟨.pointer 110, .pointer none, 1, 8⟩),
 (109, ⟨.struct #[Fl "l" 104 0 0, Fl "i" 3 1 24, Fl "deep" 3 2 32, Fl "e" 3 3 40, Fl "out" 79 4 48], .agg ⟨[.slice none 0 0, .int .i64 0, .int .i64 0, .int .i64 0, .slice none 0 0]⟩, 5, 72⟩),
 (110, ⟨.struct #[Fl "l" 104 0 0, Fl "i" 3 1 24, Fl "deep" 3 2 32, Fl "e" 3 3 40, Fl "out" 79 4 48], .agg ⟨[.slice none 0 0, .int .i64 0, .int .i64 0, .int .i64 0, .slice none 0 0]⟩, 5, 72⟩),
 (111, ⟨.func #[3] #[3] false, .nilFunc, 1, 8⟩)]
theorem rok6 : RowsOk Tryz.prog rows6 := by
 unfold rows6
 refine TyC ?_ Tryz.underlying96
 refine TyC ?_ Tryz.underlying98
 refine TyC ?_ Tryz.underlying99
 refine TyC ?_ Tryz.underlying100
 refine TyC ?_ Tryz.underlying101
 refine TyC ?_ Tryz.underlying102
 refine TyC ?_ Tryz.underlying103
 refine TyC ?_ Tryz.underlying104
 refine TyC ?_ Tryz.underlying105
 refine TyC ?_ Tryz.underlying106
 refine TyC ?_ Tryz.underlying107
 refine TyC ?_ Tryz.underlying108
 refine TyC ?_ Tryz.underlying109
 refine TyC ?_ Tryz.underlying110
 refine TyC ?_ Tryz.underlying111
 exact TyN
def rows7 : List (Nat × TRow) := [ (112, ⟨.struct #[Fl "Sheet" 9 0 0, Fl "Col" 3 1 16, Fl "Row" 3 2 24, Fl "AbsCol" 4 3 32, Fl "AbsRow" 4 4 33], .agg ⟨[.string ⟨⟨[]⟩⟩, .int .i64 0, .int .i64 0, .bool false, .bool false]⟩, 5, 40⟩),
 (113, ⟨.struct #[Fl "Sheet" 9 0 0, Fl "Col" 3 1 16, Fl "Row" 3 2 24, Fl "AbsCol" 4 3 32, Fl "AbsRow" 4 4 33], .agg ⟨[.string ⟨⟨[]⟩⟩, .int .i64 0, .int .i64 0, .bool false, .bool false]⟩, 5, 40⟩),
 (114, ⟨.struct #[Fl "Kind" 3 0 0, Fl "Text" 9 1 8, Fl "Num" 3 2 24, Fl "Ref" 113 3 32, Fl "At" 3 8 72], .agg ⟨[.int .i64 0, .string ⟨⟨[]⟩⟩, .int .i64 0, .string ⟨⟨[]⟩⟩, .int .i64 0, .int .i64 0, .bool false, .bool false, .int .i64 0]⟩, 9, 80⟩),
 (115, ⟨.struct #[Fl "Kind" 3 0 0, Fl "Text" 9 1 8, Fl "Num" 3 2 24, Fl "Ref" 113 3 32, Fl "At" 3 8 72], .agg ⟨[.int .i64 0, .string ⟨⟨[]⟩⟩, .int .i64 0, .string ⟨⟨[]⟩⟩, .int .i64 0, .int .i64 0, .bool false, .bool false, .int .i64 0]⟩, 9, 80⟩),
 (116, ⟨.func #[3] #[] false, .nilFunc, 1, 8⟩),
 (117, ⟨.func #[79] #[4] false, .nilFunc, 1, 8⟩),
 (118, ⟨.func #[79, 3] #[9] false, .nilFunc, 1, 8⟩),
 (119, ⟨.func #[3, 3] #[3, 4] false, .nilFunc, 1, 8⟩),
 (120, ⟨.int .i64, .int .i64 0, 1, 8⟩),
 (122, ⟨.func #[9] #[79, 120] false, .nilFunc, 1, 8⟩),
 (123, ⟨.int .u32, .int .u32 0, 1, 4⟩),
 (125, ⟨.func #[123, 123] #[123, 123] false, .nilFunc, 1, 8⟩),
 (127, ⟨.func #[64, 64] #[64, 64] false, .nilFunc, 1, 8⟩)]
theorem rok7 : RowsOk Tryz.prog rows7 := by
 unfold rows7
 refine TyC ?_ Tryz.underlying112
 refine TyC ?_ Tryz.underlying113
 refine TyC ?_ Tryz.underlying114
 refine TyC ?_ Tryz.underlying115
 refine TyC ?_ Tryz.underlying116
 refine TyC ?_ Tryz.underlying117
 refine TyC ?_ Tryz.underlying118
 refine TyC ?_ Tryz.underlying119
 refine TyC ?_ Tryz.underlying120
 refine TyC ?_ Tryz.underlying122
 refine TyC ?_ Tryz.underlying123
 refine TyC ?_ Tryz.underlying125
 refine TyC ?_ Tryz.underlying127
 exact TyN
def rows8 : List (Nat × TRow) := [ (128, ⟨.func #[26, 26] #[71] false, .nilFunc, 1, 8⟩),
 (129, ⟨.func #[41, 130] #[26] false, .nilFunc, 1, 8⟩),
 (130, ⟨.func #[26] #[9] false, .nilFunc, 1, 8⟩),
 (131, ⟨.func #[41, 69] #[26] false, .nilFunc, 1, 8⟩),
 (132, ⟨.pointer 134, .pointer none, 1, 8⟩),
 (133, ⟨.struct #[Fl "l" 79 0 0, Fl "out" 36 1 24], .agg ⟨[.slice none 0 0, .slice none 0 0]⟩, 2, 48⟩),
 (134, ⟨.struct #[Fl "l" 79 0 0, Fl "out" 36 1 24], .agg ⟨[.slice none 0 0, .slice none 0 0]⟩, 2, 48⟩),
 (135, ⟨.func #[139] #[139] false, .nilFunc, 1, 8⟩),
 (136, ⟨.struct #[Fl "own" 9 0 0, Fl "shifts" 56 1 16], .agg ⟨[.string ⟨⟨[]⟩⟩, .slice none 0 0]⟩, 2, 40⟩),
 (137, ⟨.struct #[Fl "own" 9 0 0, Fl "shifts" 56 1 16], .agg ⟨[.string ⟨⟨[]⟩⟩, .slice none 0 0]⟩, 2, 40⟩),
 (138, ⟨.struct #[Fl "Kind" 3 0 0, Fl "Num" 3 1 8, Fl "Text" 9 2 16, Fl "Ref" 113 3 32, Fl "To" 113 8 72, Fl "Kids" 69 13 112], .agg ⟨[.int .i64 0, .int .i64 0, .string ⟨⟨[]⟩⟩, .string ⟨⟨[]⟩⟩, .int .i64 0, .int .i64 0, .bool false, .bool false, .string ⟨⟨[]⟩⟩, .int .i64 0, .int .i64 0, .bool false, .bool false, .slice none 0 0]⟩, 14, 136⟩),
 (139, ⟨.struct #[Fl "Kind" 3 0 0, Fl "Num" 3 1 8, Fl "Text" 9 2 16, Fl "Ref" 113 3 32, Fl "To" 113 8 72, Fl "Kids" 69 13 112], .agg ⟨[.int .i64 0, .int .i64 0, .string ⟨⟨[]⟩⟩, .string ⟨⟨[]⟩⟩, .int .i64 0, .int .i64 0, .bool false, .bool false, .string ⟨⟨[]⟩⟩, .int .i64 0, .int .i64 0, .bool false, .bool false, .slice none 0 0]⟩, 14, 136⟩),
 (140, ⟨.func #[69] #[69] false, .nilFunc, 1, 8⟩),
 (142, ⟨.func #[26, 26] #[69, 69] false, .nilFunc, 1, 8⟩),
 (143, ⟨.func #[71] #[71] false, .nilFunc, 1, 8⟩)]
theorem rok8 : RowsOk Tryz.prog rows8 := by
 unfold rows8
 refine TyC ?_ Tryz.underlying128
 refine TyC ?_ Tryz.underlying129
 refine TyC ?_ Tryz.underlying130
 refine TyC ?_ Tryz.underlying131
 refine TyC ?_ Tryz.underlying132
 refine TyC ?_ Tryz.underlying133
 refine TyC ?_ Tryz.underlying134
 refine TyC ?_ Tryz.underlying135
 refine TyC ?_ Tryz.underlying136
 refine TyC ?_ Tryz.underlying137
 refine TyC ?_ Tryz.underlying138
 refine TyC ?_ Tryz.underlying139
 refine TyC ?_ Tryz.underlying140
 refine TyC ?_ Tryz.underlying142
 refine TyC ?_ Tryz.underlying143
 exact TyN
def rows9 : List (Nat × TRow) := [ (144, ⟨.func #[3, 69, 69, 3] #[71] false, .nilFunc, 1, 8⟩),
 (145, ⟨.func #[41, 41, 71, 3] #[4] false, .nilFunc, 1, 8⟩),
 (146, ⟨.func #[26] #[36] false, .nilFunc, 1, 8⟩),
 (147, ⟨.func #[139, 73] #[139] false, .nilFunc, 1, 8⟩),
 (148, ⟨.func #[41, 3, 3] #[4] false, .nilFunc, 1, 8⟩),
 (149, ⟨.func #[29, 3, 96] #[102] false, .nilFunc, 1, 8⟩),
 (150, ⟨.func #[29, 56] #[29] false, .nilFunc, 1, 8⟩),
 (152, ⟨.func #[9, 3] #[115, 3] false, .nilFunc, 1, 8⟩),
 (153, ⟨.func #[] #[3] false, .nilFunc, 1, 8⟩),
 (155, ⟨.func #[3] #[26, 69] false, .nilFunc, 1, 8⟩),
 (156, ⟨.func #[139] #[3] false, .nilFunc, 1, 8⟩),
 (157, ⟨.func #[139] #[4] false, .nilFunc, 1, 8⟩),
 (158, ⟨.func #[9] #[9] false, .nilFunc, 1, 8⟩),
 (159, ⟨.func #[113] #[9] false, .nilFunc, 1, 8⟩)]
theorem rok9 : RowsOk Tryz.prog rows9 := by
 unfold rows9
 refine TyC ?_ Tryz.underlying144
 refine TyC ?_ Tryz.underlying145
 refine TyC ?_ Tryz.underlying146
 refine TyC ?_ Tryz.underlying147
 refine TyC ?_ Tryz.underlying148
 refine TyC ?_ Tryz.underlying149
 refine TyC ?_ Tryz.underlying150
 refine TyC ?_ Tryz.underlying152
 refine TyC ?_ Tryz.underlying153
 refine TyC ?_ Tryz.underlying155
 refine TyC ?_ Tryz.underlying156
 refine TyC ?_ Tryz.underlying157
 refine TyC ?_ Tryz.underlying158
 refine TyC ?_ Tryz.underlying159
 exact TyN
def rows10 : List (Nat × TRow) := [ (160, ⟨.func #[9, 4] #[9] false, .nilFunc, 1, 8⟩),
 (162, ⟨.func #[9] #[104, 120] false, .nilFunc, 1, 8⟩),
 (163, ⟨.int .i64, .int .i64 0, 1, 8⟩),
 (165, ⟨.pointer 167, .pointer none, 1, 8⟩),
 (166, ⟨.struct #[Fl "l" 104 0 0, Fl "at" 3 1 24, Fl "out" 79 2 32, Fl "deep" 3 3 56], .agg ⟨[.slice none 0 0, .int .i64 0, .slice none 0 0, .int .i64 0]⟩, 4, 64⟩),
 (167, ⟨.struct #[Fl "l" 104 0 0, Fl "at" 3 1 24, Fl "out" 79 2 32, Fl "deep" 3 3 56], .agg ⟨[.slice none 0 0, .int .i64 0, .slice none 0 0, .int .i64 0]⟩, 4, 64⟩),
 (168, ⟨.func #[] #[115] false, .nilFunc, 1, 8⟩),
 (169, ⟨.func #[120] #[] false, .nilFunc, 1, 8⟩),
 (170, ⟨.interface #[("", 262)], .nilIface, 1, 16⟩),
 (171, ⟨.interface #[("", 262)], .nilIface, 1, 16⟩),
 (173, ⟨.func #[9] #[3, 171] false, .nilFunc, 1, 8⟩),
 (174, ⟨.func #[69, 69] #[4] false, .nilFunc, 1, 8⟩),
 (175, ⟨.func #[132, 139] #[] false, .nilFunc, 1, 8⟩)]
theorem rok10 : RowsOk Tryz.prog rows10 := by
 unfold rows10
 refine TyC ?_ Tryz.underlying160
 refine TyC ?_ Tryz.underlying162
 refine TyC ?_ Tryz.underlying163
 refine TyC ?_ Tryz.underlying165
 refine TyC ?_ Tryz.underlying166
 refine TyC ?_ Tryz.underlying167
 refine TyC ?_ Tryz.underlying168
 refine TyC ?_ Tryz.underlying169
 refine TyC ?_ Tryz.underlying170
 refine TyC ?_ Tryz.underlying171
 refine TyC ?_ Tryz.underlying173
 refine TyC ?_ Tryz.underlying174
 refine TyC ?_ Tryz.underlying175
 exact TyN
def rows11 : List (Nat × TRow) := [ (176, ⟨.func #[139] #[] false, .nilFunc, 1, 8⟩),
 (178, ⟨.func #[9] #[73, 4] false, .nilFunc, 1, 8⟩),
 (180, ⟨.func #[71, 3, 3] #[3, 3, 4] false, .nilFunc, 1, 8⟩),
 (181, ⟨.slice 69, .slice none 0 0, 1, 24⟩),
 (182, ⟨.func #[26, 26] #[181] false, .nilFunc, 1, 8⟩),
 (183, ⟨.func #[3] #[36] false, .nilFunc, 1, 8⟩),
 (184, ⟨.func #[9] #[36] false, .nilFunc, 1, 8⟩),
 (185, ⟨.func #[113] #[4] false, .nilFunc, 1, 8⟩),
 (186, ⟨.func #[3] #[26] false, .nilFunc, 1, 8⟩),
 (187, ⟨.func #[27, 41] #[27] false, .nilFunc, 1, 8⟩),
 (188, ⟨.func #[3] #[71] false, .nilFunc, 1, 8⟩),
 (189, ⟨.func #[3, 3] #[71] false, .nilFunc, 1, 8⟩),
 (190, ⟨.func #[9, 3] #[9] false, .nilFunc, 1, 8⟩)]
theorem rok11 : RowsOk Tryz.prog rows11 := by
 unfold rows11
 refine TyC ?_ Tryz.underlying176
 refine TyC ?_ Tryz.underlying178
 refine TyC ?_ Tryz.underlying180
 refine TyC ?_ Tryz.underlying181
 refine TyC ?_ Tryz.underlying182
 refine TyC ?_ Tryz.underlying183
 refine TyC ?_ Tryz.underlying184
 refine TyC ?_ Tryz.underlying185
 refine TyC ?_ Tryz.underlying186
 refine TyC ?_ Tryz.underlying187
 refine TyC ?_ Tryz.underlying188
 refine TyC ?_ Tryz.underlying189
 refine TyC ?_ Tryz.underlying190
 exact TyN
def rows12 : List (Nat × TRow) := [ (192, ⟨.func #[9] #[113, 4] false, .nilFunc, 1, 8⟩),
 (193, ⟨.func #[113, 113] #[4] false, .nilFunc, 1, 8⟩),
 (194, ⟨.pointer 196, .pointer none, 1, 8⟩),
 (195, ⟨.struct #[Fl "s" 9 0 0, Fl "at" 3 1 16], .agg ⟨[.string ⟨⟨[]⟩⟩, .int .i64 0]⟩, 2, 24⟩),
 (196, ⟨.struct #[Fl "s" 9 0 0, Fl "at" 3 1 16], .agg ⟨[.string ⟨⟨[]⟩⟩, .int .i64 0]⟩, 2, 24⟩),
 (197, ⟨.func #[78] #[9] false, .nilFunc, 1, 8⟩),
 (199, ⟨.func #[194] #[115, 4] false, .nilFunc, 1, 8⟩),
 (200, ⟨.func #[5] #[199] false, .nilFunc, 1, 8⟩),
 (201, ⟨.func #[203] #[3] false, .nilFunc, 1, 8⟩),
 (202, ⟨.struct #[Fl "below" 153 0 0, Fl "signs" 26 1 8, Fl "kinds" 69 2 32], .agg ⟨[.nilFunc, .slice none 0 0, .slice none 0 0]⟩, 3, 56⟩),
 (203, ⟨.struct #[Fl "below" 153 0 0, Fl "signs" 26 1 8, Fl "kinds" 69 2 32], .agg ⟨[.nilFunc, .slice none 0 0, .slice none 0 0]⟩, 3, 56⟩),
 (204, ⟨.func #[9, 9, 3, 3, 171] #[171] false, .nilFunc, 1, 8⟩),
 (205, ⟨.func #[2, 3] #[9] false, .nilFunc, 1, 8⟩),
 (206, ⟨.pointer 236, .pointer none, 1, 8⟩)]
theorem rok12 : RowsOk Tryz.prog rows12 := by
 unfold rows12
 refine TyC ?_ Tryz.underlying192
 refine TyC ?_ Tryz.underlying193
 refine TyC ?_ Tryz.underlying194
 refine TyC ?_ Tryz.underlying195
 refine TyC ?_ Tryz.underlying196
 refine TyC ?_ Tryz.underlying197
 refine TyC ?_ Tryz.underlying199
 refine TyC ?_ Tryz.underlying200
 refine TyC ?_ Tryz.underlying201
 refine TyC ?_ Tryz.underlying202
 refine TyC ?_ Tryz.underlying203
 refine TyC ?_ Tryz.underlying204
 refine TyC ?_ Tryz.underlying205
 refine TyC ?_ Tryz.underlying206
 exact TyN
def rows13 : List (Nat × TRow) := [ (208, ⟨.func #[26, 26] #[206, 4] false, .nilFunc, 1, 8⟩),
 (209, ⟨.func #[] #[69, 69] false, .nilFunc, 1, 8⟩),
 (210, ⟨.func #[237] #[] false, .nilFunc, 1, 8⟩),
 (211, ⟨.func #[237] #[] false, .nilFunc, 1, 8⟩),
 (212, ⟨.func #[69] #[211] false, .nilFunc, 1, 8⟩),
 (213, ⟨.func #[9] #[] false, .nilFunc, 1, 8⟩),
 (214, ⟨.func #[9, 9, 9] #[9] false, .nilFunc, 1, 8⟩),
 (215, ⟨.func #[3, 3] #[] false, .nilFunc, 1, 8⟩),
 (217, ⟨.func #[3] #[9, 3] false, .nilFunc, 1, 8⟩),
 (218, ⟨.func #[56, 219] #[3] false, .nilFunc, 1, 8⟩),
 (219, ⟨.func #[73] #[4] false, .nilFunc, 1, 8⟩),
 (220, ⟨.func #[113] #[3] false, .nilFunc, 1, 8⟩),
 (221, ⟨.func #[9] #[3] false, .nilFunc, 1, 8⟩),
 (222, ⟨.func #[] #[115, 4] false, .nilFunc, 1, 8⟩),
 (223, ⟨.func #[26, 9] #[3] false, .nilFunc, 1, 8⟩)]
theorem rok13 : RowsOk Tryz.prog rows13 := by
 unfold rows13
 refine TyC ?_ Tryz.underlying208
 refine TyC ?_ Tryz.underlying209
 refine TyC ?_ Tryz.underlying210
 refine TyC ?_ Tryz.underlying211
 refine TyC ?_ Tryz.underlying212
 refine TyC ?_ Tryz.underlying213
 refine TyC ?_ Tryz.underlying214
 refine TyC ?_ Tryz.underlying215
 refine TyC ?_ Tryz.underlying217
 refine TyC ?_ Tryz.underlying218
 refine TyC ?_ Tryz.underlying219
 refine TyC ?_ Tryz.underlying220
 refine TyC ?_ Tryz.underlying221
 refine TyC ?_ Tryz.underlying222
 refine TyC ?_ Tryz.underlying223
 exact TyN
def rows14 : List (Nat × TRow) := [ (224, ⟨.int .i64, .int .i64 0, 1, 8⟩),
 (226, ⟨.func #[9, 3, 3] #[2, 171] false, .nilFunc, 1, 8⟩),
 (227, ⟨.pointer 244, .pointer none, 1, 8⟩),
 (228, ⟨.func #[9, 9] #[227] false, .nilFunc, 1, 8⟩),
 (229, ⟨.func #[9, 9, 3] #[227] false, .nilFunc, 1, 8⟩),
 (230, ⟨.array 24 5, .agg ⟨List.replicate 24 (.int .u8 0)⟩, 24, 24⟩),
 (231, ⟨.func #[64] #[3] false, .nilFunc, 1, 8⟩),
 (232, ⟨.func #[36, 64] #[] false, .nilFunc, 1, 8⟩),
 (234, ⟨.func #[36, 64, 3, 4, 4] #[36, 9] false, .nilFunc, 1, 8⟩),
 (235, ⟨.struct #[Fl "a" 26 0 0, Fl "b" 26 1 24, Fl "n" 181 2 48], .agg ⟨[.slice none 0 0, .slice none 0 0, .slice none 0 0]⟩, 3, 72⟩),
 (236, ⟨.struct #[Fl "a" 26 0 0, Fl "b" 26 1 24, Fl "n" 181 2 48], .agg ⟨[.slice none 0 0, .slice none 0 0, .slice none 0 0]⟩, 3, 72⟩),
 (237, ⟨.func #[3, 3] #[4] false, .nilFunc, 1, 8⟩),
 (238, ⟨.func #[9, 9, 9, 3] #[9] false, .nilFunc, 1, 8⟩),
 (239, ⟨.func #[4] #[9] false, .nilFunc, 1, 8⟩)]
theorem rok14 : RowsOk Tryz.prog rows14 := by
 unfold rows14
 refine TyC ?_ Tryz.underlying224
 refine TyC ?_ Tryz.underlying226
 refine TyC ?_ Tryz.underlying227
 refine TyC ?_ Tryz.underlying228
 refine TyC ?_ Tryz.underlying229
 refine TyC ?_ Tryz.underlying230
 refine TyC ?_ Tryz.underlying231
 refine TyC ?_ Tryz.underlying232
 refine TyC ?_ Tryz.underlying234
 refine TyC ?_ Tryz.underlying235
 refine TyC ?_ Tryz.underlying236
 refine TyC ?_ Tryz.underlying237
 refine TyC ?_ Tryz.underlying238
 refine TyC ?_ Tryz.underlying239
 exact TyN
def rows15 : List (Nat × TRow) := [ (240, ⟨.func #[9, 9] #[4] false, .nilFunc, 1, 8⟩),
 (242, ⟨.func #[9, 3, 3] #[64, 171] false, .nilFunc, 1, 8⟩),
 (243, ⟨.struct #[Fl "Func" 9 0 0, Fl "Num" 9 1 16, Fl "Err" 171 2 32], .agg ⟨[.string ⟨⟨[]⟩⟩, .string ⟨⟨[]⟩⟩, .nilIface]⟩, 3, 48⟩),
 (244, ⟨.struct #[Fl "Func" 9 0 0, Fl "Num" 9 1 16, Fl "Err" 171 2 32], .agg ⟨[.string ⟨⟨[]⟩⟩, .string ⟨⟨[]⟩⟩, .nilIface]⟩, 3, 48⟩),
 (245, ⟨.func #[9] #[171] false, .nilFunc, 1, 8⟩),
 (246, ⟨.func #[4] #[3] false, .nilFunc, 1, 8⟩),
 (247, ⟨.array 20 64, .agg ⟨List.replicate 20 (.int .u64 0)⟩, 20, 160⟩),
 (248, ⟨.array 65 5, .agg ⟨List.replicate 65 (.int .u8 0)⟩, 65, 65⟩),
 (249, ⟨.func #[3] #[4] false, .nilFunc, 1, 8⟩),
 (250, ⟨.func #[86] #[3] false, .nilFunc, 1, 8⟩),
 (251, ⟨.pointer 253, .pointer none, 1, 8⟩),
 (252, ⟨.struct #[Fl "s" 9 0 0], .agg ⟨[.string ⟨⟨[]⟩⟩]⟩, 1, 16⟩),
 (253, ⟨.struct #[Fl "s" 9 0 0], .agg ⟨[.string ⟨⟨[]⟩⟩]⟩, 1, 16⟩),
 (255, ⟨.func #[9, 9] #[9, 9, 4] false, .nilFunc, 1, 8⟩)]
theorem rok15 : RowsOk Tryz.prog rows15 := by
 unfold rows15
 refine TyC ?_ Tryz.underlying240
 refine TyC ?_ Tryz.underlying242
 refine TyC ?_ Tryz.underlying243
 refine TyC ?_ Tryz.underlying244
 refine TyC ?_ Tryz.underlying245
 refine TyC ?_ Tryz.underlying246
 refine TyC ?_ Tryz.underlying247
 refine TyC ?_ Tryz.underlying248
 refine TyC ?_ Tryz.underlying249
 refine TyC ?_ Tryz.underlying250
 refine TyC ?_ Tryz.underlying251
 refine TyC ?_ Tryz.underlying252
 refine TyC ?_ Tryz.underlying253
 refine TyC ?_ Tryz.underlying255
 exact TyN
def rows16 : List (Nat × TRow) := [ (256, ⟨.func #[9, 9] #[3] false, .nilFunc, 1, 8⟩),
 (257, ⟨.pointer 259, .pointer none, 1, 8⟩),
 (258, ⟨.struct #[Fl "addr" 257 0 0, Fl "buf" 36 1 8], .agg ⟨[.pointer none, .slice none 0 0]⟩, 2, 32⟩),
 (259, ⟨.struct #[Fl "addr" 257 0 0, Fl "buf" 36 1 8], .agg ⟨[.pointer none, .slice none 0 0]⟩, 2, 32⟩),
 (261, ⟨.func #[9] #[21, 3] false, .nilFunc, 1, 8⟩),
 (262, ⟨.func #[] #[9] false, .nilFunc, 1, 8⟩),
 (263, ⟨.func #[5] #[5] false, .nilFunc, 1, 8⟩),
 (264, ⟨.pointer 5, .pointer none, 1, 8⟩),
 (265, ⟨.pointer 267, .pointer none, 1, 8⟩),
 (266, ⟨.struct #[Fl "s" 9 0 0], .agg ⟨[.string ⟨⟨[]⟩⟩]⟩, 1, 16⟩),
 (267, ⟨.struct #[Fl "s" 9 0 0], .agg ⟨[.string ⟨⟨[]⟩⟩]⟩, 1, 16⟩),
 (268, ⟨.func #[123] #[3] false, .nilFunc, 1, 8⟩),
 (270, ⟨.func #[9, 9] #[9, 4] false, .nilFunc, 1, 8⟩),
 (271, ⟨.func #[9, 5] #[3] false, .nilFunc, 1, 8⟩)]
theorem rok16 : RowsOk Tryz.prog rows16 := by
 unfold rows16
 refine TyC ?_ Tryz.underlying256
 refine TyC ?_ Tryz.underlying257
 refine TyC ?_ Tryz.underlying258
 refine TyC ?_ Tryz.underlying259
 refine TyC ?_ Tryz.underlying261
 refine TyC ?_ Tryz.underlying262
 refine TyC ?_ Tryz.underlying263
 refine TyC ?_ Tryz.underlying264
 refine TyC ?_ Tryz.underlying265
 refine TyC ?_ Tryz.underlying266
 refine TyC ?_ Tryz.underlying267
 refine TyC ?_ Tryz.underlying268
 refine TyC ?_ Tryz.underlying270
 refine TyC ?_ Tryz.underlying271
 exact TyN
def rows17 : List (Nat × TRow) := [ (272, ⟨.array 32 5, .agg ⟨List.replicate 32 (.int .u8 0)⟩, 32, 32⟩),
 (273, ⟨.array 64 5, .agg ⟨List.replicate 64 (.int .u8 0)⟩, 64, 64⟩),
 (276, ⟨.array 256 5, .agg ⟨List.replicate 256 (.int .u8 0)⟩, 256, 256⟩),
 (277, ⟨.struct #[Fl "lo" 5 0 0, Fl "hi" 5 1 1], .agg ⟨[.int .u8 0, .int .u8 0]⟩, 2, 2⟩),
 (278, ⟨.struct #[Fl "lo" 5 0 0, Fl "hi" 5 1 1], .agg ⟨[.int .u8 0, .int .u8 0]⟩, 2, 2⟩),
 (279, ⟨.array 16 278, .agg ⟨[.int .u8 0, .int .u8 0, .int .u8 0, .int .u8 0, .int .u8 0, .int .u8 0, .int .u8 0, .int .u8 0, .int .u8 0, .int .u8 0, .int .u8 0, .int .u8 0, .int .u8 0, .int .u8 0, .int .u8 0, .int .u8 0, .int .u8 0, .int .u8 0, .int .u8 0, .int .u8 0, .int .u8 0, .int .u8 0, .int .u8 0, .int .u8 0, .int .u8 0, .int .u8 0, .int .u8 0, .int .u8 0, .int .u8 0, .int .u8 0, .int .u8 0, .int .u8 0]⟩, 32, 32⟩),
 (280, ⟨.func #[9] #[123, 123] false, .nilFunc, 1, 8⟩)]
theorem rok17 : RowsOk Tryz.prog rows17 := by
 unfold rows17
 refine TyC ?_ Tryz.underlying272
 refine TyC ?_ Tryz.underlying273
 refine TyC ?_ Tryz.underlying276
 refine TyC ?_ Tryz.underlying277
 refine TyC ?_ Tryz.underlying278
 refine TyC ?_ Tryz.underlying279
 refine TyC ?_ Tryz.underlying280
 exact TyN
instance tab : Tab Tryz.prog := ⟨fun t => lookB [rows0, rows1, rows2, rows3, rows4, rows5, rows6, rows7, rows8, rows9, rows10, rows11, rows12, rows13, rows14, rows15, rows16, rows17] (t / 16) t, fun t r h => lookB_ok (RowsB.cons rok0 (RowsB.cons rok1 (RowsB.cons rok2 (RowsB.cons rok3 (RowsB.cons rok4 (RowsB.cons rok5 (RowsB.cons rok6 (RowsB.cons rok7 (RowsB.cons rok8 (RowsB.cons rok9 (RowsB.cons rok10 (RowsB.cons rok11 (RowsB.cons rok12 (RowsB.cons rok13 (RowsB.cons rok14 (RowsB.cons rok15 (RowsB.cons rok16 (RowsB.cons rok17 (RowsB.nil))))))))))))))))))) (t / 16) t r h⟩
end Go.Proofs.YtefaigjfkddelaaGreatDoor
