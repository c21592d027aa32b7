/-
  The table of the types of this seat's translation. Printed by gentab.py.
-/
import Derived.Test.YtabjahlbcoigcaaChecked
import Derived.Test.YtabjahlbcoigcaaTy
namespace Go.Proofs.Ytabjahlbcoigcaa
open Go Go.E
set_option maxRecDepth 100000
def rows0 : List (Nat × TRow) := [ (1, ⟨.func #[] #[] false, .nilFunc, 1, 8⟩),
 (2, ⟨.int .i64, .int .i64 0, 1, 8⟩),
 (3, ⟨.int .i64, .int .i64 0, 1, 8⟩),
 (4, ⟨.bool, .bool false, 1, 1⟩),
 (5, ⟨.int .u8, .int .u8 0, 1, 1⟩),
 (9, ⟨.string, .string ⟨⟨[]⟩⟩, 1, 16⟩),
 (12, ⟨.int .u64, .int .u64 0, 1, 8⟩),
 (13, ⟨.struct #[Fl "msg" 9 0 0, Fl "addr" 12 1 16], .agg ⟨[.string ⟨⟨[]⟩⟩, .int .u64 0]⟩, 2, 24⟩)]
theorem rok0 : RowsOk Try.prog rows0 := by
 unfold rows0
 refine TyC ?_ Try.underlying1
 refine TyC ?_ Try.underlying2
 refine TyC ?_ Try.underlying3
 refine TyC ?_ Try.underlying4
 refine TyC ?_ Try.underlying5
 refine TyC ?_ Try.underlying9
 refine TyC ?_ Try.underlying12
 refine TyC ?_ Try.underlying13
 exact TyN
def rows1 : List (Nat × TRow) := [ (20, ⟨.interface #[], .nilIface, 1, 16⟩),
 (21, ⟨.int .i32, .int .i32 0, 1, 4⟩),
 (22, ⟨.slice 23, .slice none 0 0, 1, 24⟩),
 (23, ⟨.slice 5, .slice none 0 0, 1, 24⟩),
 (24, ⟨.func #[] #[4] false, .nilFunc, 1, 8⟩),
 (25, ⟨.pointer 58, .pointer none, 1, 8⟩),
 (26, ⟨.func #[29] #[25] false, .nilFunc, 1, 8⟩),
 (27, ⟨.slice 4, .slice none 0 0, 1, 24⟩),
 (28, ⟨.struct #[Fl "Sectors" 3 0 0, Fl "Crash" 3 1 8, Fl "Keep" 27 2 16], .agg ⟨[.int .i64 0, .int .i64 0, .slice none 0 0]⟩, 3, 40⟩),
 (29, ⟨.struct #[Fl "Sectors" 3 0 0, Fl "Crash" 3 1 8, Fl "Keep" 27 2 16], .agg ⟨[.int .i64 0, .int .i64 0, .slice none 0 0]⟩, 3, 40⟩),
 (30, ⟨.pointer 63, .pointer none, 1, 8⟩),
 (31, ⟨.int .i64, .int .i64 0, 1, 8⟩)]
theorem rok1 : RowsOk Try.prog rows1 := by
 unfold rows1
 refine TyC ?_ Try.underlying20
 refine TyC ?_ Try.underlying21
 refine TyC ?_ Try.underlying22
 refine TyC ?_ Try.underlying23
 refine TyC ?_ Try.underlying24
 refine TyC ?_ Try.underlying25
 refine TyC ?_ Try.underlying26
 refine TyC ?_ Try.underlying27
 refine TyC ?_ Try.underlying28
 refine TyC ?_ Try.underlying29
 refine TyC ?_ Try.underlying30
 refine TyC ?_ Try.underlying31
 exact TyN
def rows2 : List (Nat × TRow) := [ (33, ⟨.func #[25] #[30, 31] false, .nilFunc, 1, 8⟩),
 (34, ⟨.func #[31] #[3] false, .nilFunc, 1, 8⟩),
 (35, ⟨.slice 44, .slice none 0 0, 1, 24⟩),
 (36, ⟨.slice 72, .slice none 0 0, 1, 24⟩),
 (37, ⟨.func #[23] #[36] false, .nilFunc, 1, 8⟩),
 (38, ⟨.func #[35, 35] #[35] false, .nilFunc, 1, 8⟩),
 (39, ⟨.func #[23] #[35] false, .nilFunc, 1, 8⟩),
 (40, ⟨.func #[35, 36] #[31] false, .nilFunc, 1, 8⟩),
 (41, ⟨.func #[30, 35, 36] #[4] false, .nilFunc, 1, 8⟩),
 (42, ⟨.slice 9, .slice none 0 0, 1, 24⟩),
 (43, ⟨.struct #[Fl "Id" 9 0 0, Fl "Bytes" 9 1 16], .agg ⟨[.string ⟨⟨[]⟩⟩, .string ⟨⟨[]⟩⟩]⟩, 2, 32⟩),
 (44, ⟨.struct #[Fl "Id" 9 0 0, Fl "Bytes" 9 1 16], .agg ⟨[.string ⟨⟨[]⟩⟩, .string ⟨⟨[]⟩⟩]⟩, 2, 32⟩),
 (45, ⟨.func #[5] #[44] false, .nilFunc, 1, 8⟩),
 (46, ⟨.func #[42] #[31] false, .nilFunc, 1, 8⟩),
 (47, ⟨.func #[35, 42] #[35] false, .nilFunc, 1, 8⟩)]
theorem rok2 : RowsOk Try.prog rows2 := by
 unfold rows2
 refine TyC ?_ Try.underlying33
 refine TyC ?_ Try.underlying34
 refine TyC ?_ Try.underlying35
 refine TyC ?_ Try.underlying36
 refine TyC ?_ Try.underlying37
 refine TyC ?_ Try.underlying38
 refine TyC ?_ Try.underlying39
 refine TyC ?_ Try.underlying40
 refine TyC ?_ Try.underlying41
 refine TyC ?_ Try.underlying42
 refine TyC ?_ Try.underlying43
 refine TyC ?_ Try.underlying44
 refine TyC ?_ Try.underlying45
 refine TyC ?_ Try.underlying46
 refine TyC ?_ Try.underlying47
 exact TyN
def rows3 : List (Nat × TRow) := [ (49, ⟨.func #[9] #[23, 4] false, .nilFunc, 1, 8⟩),
 (50, ⟨.func #[22, 22, 23] #[4] false, .nilFunc, 1, 8⟩),
 (51, ⟨.func #[] #[35] false, .nilFunc, 1, 8⟩),
 (52, ⟨.func #[] #[36] false, .nilFunc, 1, 8⟩),
 (53, ⟨.func #[9] #[4] false, .nilFunc, 1, 8⟩),
 (54, ⟨.func #[29] #[] false, .nilFunc, 1, 8⟩),
 (55, ⟨.func #[22, 23, 5, 27, 5] #[4] false, .nilFunc, 1, 8⟩),
 (56, ⟨.slice 88, .slice none 0 0, 1, 24⟩),
 (57, ⟨.struct #[Fl "l" 56 0 0, Fl "crash" 3 1 24, Fl "calls" 3 2 32, Fl "down" 4 3 40], .agg ⟨[.slice none 0 0, .int .i64 0, .int .i64 0, .bool false]⟩, 4, 48⟩),
 (58, ⟨.struct #[Fl "l" 56 0 0, Fl "crash" 3 1 24, Fl "calls" 3 2 32, Fl "down" 4 3 40], .agg ⟨[.slice none 0 0, .int .i64 0, .int .i64 0, .bool false]⟩, 4, 48⟩),
 (59, ⟨.func #[] #[3] false, .nilFunc, 1, 8⟩),
 (60, ⟨.struct #[Fl "l" 35 0 0, Fl "refs" 36 1 24], .agg ⟨[.slice none 0 0, .slice none 0 0]⟩, 2, 48⟩),
 (61, ⟨.struct #[Fl "l" 35 0 0, Fl "refs" 36 1 24], .agg ⟨[.slice none 0 0, .slice none 0 0]⟩, 2, 48⟩),
 (62, ⟨.struct #[Fl "d" 25 0 0, Fl "turn" 3 1 8, Fl "half" 3 2 16, Fl "now" 61 3 24], .agg ⟨[.pointer none, .int .i64 0, .int .i64 0, .slice none 0 0, .slice none 0 0]⟩, 5, 72⟩),
 (63, ⟨.struct #[Fl "d" 25 0 0, Fl "turn" 3 1 8, Fl "half" 3 2 16, Fl "now" 61 3 24], .agg ⟨[.pointer none, .int .i64 0, .int .i64 0, .slice none 0 0, .slice none 0 0]⟩, 5, 72⟩)]
theorem rok3 : RowsOk Try.prog rows3 := by
 unfold rows3
 refine TyC ?_ Try.underlying49
 refine TyC ?_ Try.underlying50
 refine TyC ?_ Try.underlying51
 refine TyC ?_ Try.underlying52
 refine TyC ?_ Try.underlying53
 refine TyC ?_ Try.underlying54
 refine TyC ?_ Try.underlying55
 refine TyC ?_ Try.underlying56
 refine TyC ?_ Try.underlying57
 refine TyC ?_ Try.underlying58
 refine TyC ?_ Try.underlying59
 refine TyC ?_ Try.underlying60
 refine TyC ?_ Try.underlying61
 refine TyC ?_ Try.underlying62
 refine TyC ?_ Try.underlying63
 exact TyN
def rows4 : List (Nat × TRow) := [ (65, ⟨.func #[3] #[23, 31] false, .nilFunc, 1, 8⟩),
 (67, ⟨.func #[23] #[3, 3, 3, 4] false, .nilFunc, 1, 8⟩),
 (68, ⟨.func #[3, 3] #[23, 31] false, .nilFunc, 1, 8⟩),
 (70, ⟨.func #[23] #[61, 4] false, .nilFunc, 1, 8⟩),
 (71, ⟨.struct #[Fl "Name" 9 0 0, Fl "Id" 9 1 16], .agg ⟨[.string ⟨⟨[]⟩⟩, .string ⟨⟨[]⟩⟩]⟩, 2, 32⟩),
 (72, ⟨.struct #[Fl "Name" 9 0 0, Fl "Id" 9 1 16], .agg ⟨[.string ⟨⟨[]⟩⟩, .string ⟨⟨[]⟩⟩]⟩, 2, 32⟩),
 (73, ⟨.func #[35, 44] #[35] false, .nilFunc, 1, 8⟩),
 (74, ⟨.func #[23] #[9] false, .nilFunc, 1, 8⟩),
 (75, ⟨.func #[36] #[4] false, .nilFunc, 1, 8⟩),
 (76, ⟨.func #[61] #[31] false, .nilFunc, 1, 8⟩),
 (77, ⟨.func #[36] #[36] false, .nilFunc, 1, 8⟩),
 (78, ⟨.func #[35, 35] #[4] false, .nilFunc, 1, 8⟩),
 (79, ⟨.func #[36, 36] #[4] false, .nilFunc, 1, 8⟩)]
theorem rok4 : RowsOk Try.prog rows4 := by
 unfold rows4
 refine TyC ?_ Try.underlying65
 refine TyC ?_ Try.underlying67
 refine TyC ?_ Try.underlying68
 refine TyC ?_ Try.underlying70
 refine TyC ?_ Try.underlying71
 refine TyC ?_ Try.underlying72
 refine TyC ?_ Try.underlying73
 refine TyC ?_ Try.underlying74
 refine TyC ?_ Try.underlying75
 refine TyC ?_ Try.underlying76
 refine TyC ?_ Try.underlying77
 refine TyC ?_ Try.underlying78
 refine TyC ?_ Try.underlying79
 exact TyN
def rows5 : List (Nat × TRow) := [ (80, ⟨.func #[3] #[9] false, .nilFunc, 1, 8⟩),
 (81, ⟨.func #[42, 9] #[4] false, .nilFunc, 1, 8⟩),
 (82, ⟨.func #[35, 83] #[3] false, .nilFunc, 1, 8⟩),
 (83, ⟨.func #[44] #[4] false, .nilFunc, 1, 8⟩),
 (84, ⟨.func #[35] #[35] false, .nilFunc, 1, 8⟩),
 (85, ⟨.pointer 88, .pointer none, 1, 8⟩),
 (86, ⟨.array 64 5, .agg ⟨List.replicate 64 (.int .u8 0)⟩, 64, 64⟩),
 (87, ⟨.struct #[Fl "now" 86 0 0, Fl "safe" 86 64 64, Fl "loose" 4 128 128], .agg ⟨[.int .u8 0, .int .u8 0, .int .u8 0, .int .u8 0, .int .u8 0, .int .u8 0, .int .u8 0, .int .u8 0, .int .u8 0, .int .u8 0, .int .u8 0, .int .u8 0, .int .u8 0, .int .u8 0, .int .u8 0, .int .u8 0, .int .u8 0, .int .u8 0, .int .u8 0, .int .u8 0, .int .u8 0, .int .u8 0, .int .u8 0, .int .u8 0, .int .u8 0, .int .u8 0, .int .u8 0, .int .u8 0, .int .u8 0, .int .u8 0, .int .u8 0, .int .u8 0, .int .u8 0, .int .u8 0, .int .u8 0, .int .u8 0, .int .u8 0, .int .u8 0, .int .u8 0, .int .u8 0, .int .u8 0, .int .u8 0, .int .u8 0, .int .u8 0, .int .u8 0, .int .u8 0, .int .u8 0, .int .u8 0, .int .u8 0, .int .u8 0, .int .u8 0, .int .u8 0, .int .u8 0, .int .u8 0, .int .u8 0, .int .u8 0, .int .u8 0, .int .u8 0, .int .u8 0, .int .u8 0, .int .u8 0, .int .u8 0, .int .u8 0, .int .u8 0, .int .u8 0, .int .u8 0, .int .u8 0, .int .u8 0, .int .u8 0, .int .u8 0, .int .u8 0, .int .u8 0, .int .u8 0, .int .u8 0, .int .u8 0, .int .u8 0, .int .u8 0, .int .u8 0, .int .u8 0, .int .u8 0, .int .u8 0, .int .u8 0, .int .u8 0, .int .u8 0, .int .u8 0, .int .u8 0, .int .u8 0, .int .u8 0, .int .u8 0, .int .u8 0, .int .u8 0, .int .u8 0, .int .u8 0, .int .u8 0, .int .u8 0, .int .u8 0, .int .u8 0, .int .u8 0, .int .u8 0, .int .u8 0, .int .u8 0, .int .u8 0, .int .u8 0, .int .u8 0, .int .u8 0, .int .u8 0, .int .u8 0, .int .u8 0, .int .u8 0, .int .u8 0, .int .u8 0, .int .u8 0, .int .u8 0, .int .u8 0, .int .u8 0, .int .u8 0, .int .u8 0, .int .u8 0, .int .u8 0, .int .u8 0, .int .u8 0, .int .u8 0, .int .u8 0, .int .u8 0, .int .u8 0, .int .u8 0, .int .u8 0, .int .u8 0, .bool false]⟩, 129, 129⟩),
 (88, ⟨.struct #[Fl "now" 86 0 0, Fl "safe" 86 64 64, Fl "loose" 4 128 128], .agg ⟨[.int .u8 0, .int .u8 0, .int .u8 0, .int .u8 0, .int .u8 0, .int .u8 0, .int .u8 0, .int .u8 0, .int .u8 0, .int .u8 0, .int .u8 0, .int .u8 0, .int .u8 0, .int .u8 0, .int .u8 0, .int .u8 0, .int .u8 0, .int .u8 0, .int .u8 0, .int .u8 0, .int .u8 0, .int .u8 0, .int .u8 0, .int .u8 0, .int .u8 0, .int .u8 0, .int .u8 0, .int .u8 0, .int .u8 0, .int .u8 0, .int .u8 0, .int .u8 0, .int .u8 0, .int .u8 0, .int .u8 0, .int .u8 0, .int .u8 0, .int .u8 0, .int .u8 0, .int .u8 0, .int .u8 0, .int .u8 0, .int .u8 0, .int .u8 0, .int .u8 0, .int .u8 0, .int .u8 0, .int .u8 0, .int .u8 0, .int .u8 0, .int .u8 0, .int .u8 0, .int .u8 0, .int .u8 0, .int .u8 0, .int .u8 0, .int .u8 0, .int .u8 0, .int .u8 0, .int .u8 0, .int .u8 0, .int .u8 0, .int .u8 0, .int .u8 0, .int .u8 0, .int .u8 0, .int .u8 0, .int .u8 0, .int .u8 0, .int .u8 0, .int .u8 0, .int .u8 0, .int .u8 0, .int .u8 0, .int .u8 0, .int .u8 0, .int .u8 0, .int .u8 0, .int .u8 0, .int .u8 0, .int .u8 0, .int .u8 0, .int .u8 0, .int .u8 0, .int .u8 0, .int .u8 0, .int .u8 0, .int .u8 0, .int .u8 0, .int .u8 0, .int .u8 0, .int .u8 0, .int .u8 0, .int .u8 0, .int .u8 0, .int .u8 0, .int .u8 0, .int .u8 0, .int .u8 0, .int .u8 0, .int .u8 0, .int .u8 0, .int .u8 0, .int .u8 0, .int .u8 0, .int .u8 0, .int .u8 0, .int .u8 0, .int .u8 0, .int .u8 0, .int .u8 0, .int .u8 0, .int .u8 0, .int .u8 0, .int .u8 0, .int .u8 0, .int .u8 0, .int .u8 0, .int .u8 0, .int .u8 0, .int .u8 0, .int .u8 0, .int .u8 0, .int .u8 0, .int .u8 0, .int .u8 0, .int .u8 0, .int .u8 0, .bool false]⟩, 129, 129⟩),
 (89, ⟨.func #[23] #[23] false, .nilFunc, 1, 8⟩),
 (90, ⟨.pointer 92, .pointer none, 1, 8⟩),
 (91, ⟨.struct #[Fl "B" 23 0 0, Fl "At" 3 1 24, Fl "Bad" 4 2 32], .agg ⟨[.slice none 0 0, .int .i64 0, .bool false]⟩, 3, 40⟩),
 (92, ⟨.struct #[Fl "B" 23 0 0, Fl "At" 3 1 24, Fl "Bad" 4 2 32], .agg ⟨[.slice none 0 0, .int .i64 0, .bool false]⟩, 3, 40⟩),
 (93, ⟨.array 3 3, .agg ⟨[.int .i64 0, .int .i64 0, .int .i64 0]⟩, 3, 24⟩),
 (95, ⟨.func #[23, 3] #[3, 3, 4] false, .nilFunc, 1, 8⟩)]
theorem rok5 : RowsOk Try.prog rows5 := by
 unfold rows5
 refine TyC ?_ Try.underlying80
 refine TyC ?_ Try.underlying81
 refine TyC ?_ Try.underlying82
 refine TyC ?_ Try.underlying83
 refine TyC ?_ Try.underlying84
 refine TyC ?_ Try.underlying85
 refine TyC ?_ Try.underlying86
 refine TyC ?_ Try.underlying87
 refine TyC ?_ Try.underlying88
 refine TyC ?_ Try.underlying89
 refine TyC ?_ Try.underlying90
 refine TyC ?_ Try.underlying91
 refine TyC ?_ Try.underlying92
 refine TyC ?_ Try.underlying93
 refine TyC ?_ Try.underlying95
 exact TyN
def rows6 : List (Nat × TRow) := [ (96, ⟨.func #[] #[9] false, .nilFunc, 1, 8⟩),
 (97, ⟨.func #[23, 23] #[4] false, .nilFunc, 1, 8⟩),
 (98, ⟨.func #[3, 3, 3] #[23] false, .nilFunc, 1, 8⟩),
 (99, ⟨.func #[25] #[3] false, .nilFunc, 1, 8⟩),
 (100, ⟨.pointer 125, .pointer none, 1, 8⟩),
 (101, ⟨.func #[] #[100] false, .nilFunc, 1, 8⟩),
 (102, ⟨.func #[23] #[] false, .nilFunc, 1, 8⟩),
 (103, ⟨.func #[] #[23] false, .nilFunc, 1, 8⟩),
 (104, ⟨.func #[126] #[] false, .nilFunc, 1, 8⟩),
 (105, ⟨.func #[126] #[] false, .nilFunc, 1, 8⟩),
 (106, ⟨.func #[23, 3] #[105] false, .nilFunc, 1, 8⟩),
 (107, ⟨.func #[3, 23] #[31] false, .nilFunc, 1, 8⟩),
 (108, ⟨.func #[] #[31] false, .nilFunc, 1, 8⟩),
 (109, ⟨.func #[133] #[35] true, .nilFunc, 1, 8⟩),
 (110, ⟨.int .u64, .int .u64 0, 1, 8⟩),
 (111, ⟨.int .u64, .int .u64 0, 1, 8⟩)]
theorem rok6 : RowsOk Try.prog rows6 := by
 unfold rows6
 refine TyC ?_ Try.underlying96
 refine TyC ?_ Try.underlying97
 refine TyC ?_ Try.underlying98
 refine TyC ?_ Try.underlying99
 refine TyC ?_ Try.underlying100
 refine TyC ?_ Try.underlying101
 refine TyC ?_ Try.underlying102
 refine TyC ?_ Try.underlying103
 refine TyC ?_ Try.underlying104
 refine TyC ?_ Try.underlying105
 refine TyC ?_ Try.underlying106
 refine TyC ?_ Try.underlying107
 refine TyC ?_ Try.underlying108
 refine TyC ?_ Try.underlying109
 refine TyC ?_ Try.underlying110
 refine TyC ?_ Try.underlying111
 exact TyN
def rows7 : List (Nat × TRow) := [ (112, ⟨.int .u32, .int .u32 0, 1, 4⟩),
 (113, ⟨.slice 112, .slice none 0 0, 1, 24⟩),
 (114, ⟨.func #[] #[113] false, .nilFunc, 1, 8⟩),
 (115, ⟨.func #[113, 23, 113] #[113] false, .nilFunc, 1, 8⟩),
 (116, ⟨.func #[42, 9] #[3] false, .nilFunc, 1, 8⟩),
 (117, ⟨.func #[90, 118] #[9] false, .nilFunc, 1, 8⟩),
 (118, ⟨.func #[23, 3] #[9, 3, 4] false, .nilFunc, 1, 8⟩),
 (119, ⟨.slice 3, .slice none 0 0, 1, 24⟩),
 (120, ⟨.func #[9] #[23] false, .nilFunc, 1, 8⟩),
 (121, ⟨.func #[3] #[23] false, .nilFunc, 1, 8⟩),
 (122, ⟨.func #[90, 95] #[3] false, .nilFunc, 1, 8⟩),
 (123, ⟨.array 8 112, .agg ⟨[.int .u32 0, .int .u32 0, .int .u32 0, .int .u32 0, .int .u32 0, .int .u32 0, .int .u32 0, .int .u32 0]⟩, 8, 32⟩),
 (124, ⟨.struct #[Fl "h" 123 0 0, Fl "rest" 23 8 32, Fl "n" 3 9 56], .agg ⟨[.int .u32 0, .int .u32 0, .int .u32 0, .int .u32 0, .int .u32 0, .int .u32 0, .int .u32 0, .int .u32 0, .slice none 0 0, .int .i64 0]⟩, 10, 64⟩),
 (125, ⟨.struct #[Fl "h" 123 0 0, Fl "rest" 23 8 32, Fl "n" 3 9 56], .agg ⟨[.int .u32 0, .int .u32 0, .int .u32 0, .int .u32 0, .int .u32 0, .int .u32 0, .int .u32 0, .int .u32 0, .slice none 0 0, .int .i64 0]⟩, 10, 64⟩),
 (126, ⟨.func #[23] #[4] false, .nilFunc, 1, 8⟩),
 (127, ⟨.func #[1] #[31] false, .nilFunc, 1, 8⟩)]
theorem rok7 : RowsOk Try.prog rows7 := by
 unfold rows7
 refine TyC ?_ Try.underlying112
 refine TyC ?_ Try.underlying113
 refine TyC ?_ Try.underlying114
 refine TyC ?_ Try.underlying115
 refine TyC ?_ Try.underlying116
 refine TyC ?_ Try.underlying117
 refine TyC ?_ Try.underlying118
 refine TyC ?_ Try.underlying119
 refine TyC ?_ Try.underlying120
 refine TyC ?_ Try.underlying121
 refine TyC ?_ Try.underlying122
 refine TyC ?_ Try.underlying123
 refine TyC ?_ Try.underlying124
 refine TyC ?_ Try.underlying125
 refine TyC ?_ Try.underlying126
 refine TyC ?_ Try.underlying127
 exact TyN
def rows8 : List (Nat × TRow) := [ (128, ⟨.func #[35, 130] #[] false, .nilFunc, 1, 8⟩),
 (129, ⟨.func #[9, 9] #[3] false, .nilFunc, 1, 8⟩),
 (130, ⟨.func #[44, 44] #[3] false, .nilFunc, 1, 8⟩),
 (131, ⟨.func #[35, 132] #[35] false, .nilFunc, 1, 8⟩),
 (132, ⟨.func #[44, 44] #[4] false, .nilFunc, 1, 8⟩),
 (133, ⟨.slice 35, .slice none 0 0, 1, 24⟩),
 (134, ⟨.func #[35, 3] #[35] false, .nilFunc, 1, 8⟩),
 (135, ⟨.func #[112, 3] #[112] false, .nilFunc, 1, 8⟩),
 (137, ⟨.array 64 112, .agg ⟨List.replicate 64 (.int .u32 0)⟩, 64, 256⟩),
 (138, ⟨.func #[] #[137] false, .nilFunc, 1, 8⟩),
 (139, ⟨.func #[112, 3, 3, 3] #[112] false, .nilFunc, 1, 8⟩),
 (140, ⟨.func #[35, 3, 130] #[] false, .nilFunc, 1, 8⟩),
 (141, ⟨.func #[35, 3, 3, 130] #[] false, .nilFunc, 1, 8⟩),
 (142, ⟨.func #[35, 3, 3, 3, 130] #[] false, .nilFunc, 1, 8⟩)]
theorem rok8 : RowsOk Try.prog rows8 := by
 unfold rows8
 refine TyC ?_ Try.underlying128
 refine TyC ?_ Try.underlying129
 refine TyC ?_ Try.underlying130
 refine TyC ?_ Try.underlying131
 refine TyC ?_ Try.underlying132
 refine TyC ?_ Try.underlying133
 refine TyC ?_ Try.underlying134
 refine TyC ?_ Try.underlying135
 refine TyC ?_ Try.underlying137
 refine TyC ?_ Try.underlying138
 refine TyC ?_ Try.underlying139
 refine TyC ?_ Try.underlying140
 refine TyC ?_ Try.underlying141
 refine TyC ?_ Try.underlying142
 exact TyN
def rows9 : List (Nat × TRow) := [ (151, ⟨.pointer 5, .pointer none, 1, 8⟩),
 (156, ⟨.func #[] #[5] false, .nilFunc, 1, 8⟩)]
theorem rok9 : RowsOk Try.prog rows9 := by
 unfold rows9
 refine TyC ?_ Try.underlying151
 refine TyC ?_ Try.underlying156
 exact TyN
instance tab : Tab Try.prog := ⟨fun t => lookB [rows0, rows1, rows2, rows3, rows4, rows5, rows6, rows7, rows8, rows9] (t / 16) t, fun t r h => lookB_ok (RowsB.cons rok0 (RowsB.cons rok1 (RowsB.cons rok2 (RowsB.cons rok3 (RowsB.cons rok4 (RowsB.cons rok5 (RowsB.cons rok6 (RowsB.cons rok7 (RowsB.cons rok8 (RowsB.cons rok9 (RowsB.nil))))))))))) (t / 16) t r h⟩
end Go.Proofs.Ytabjahlbcoigcaa
