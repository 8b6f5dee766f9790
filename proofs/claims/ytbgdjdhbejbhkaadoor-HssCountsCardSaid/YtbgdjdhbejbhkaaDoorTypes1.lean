/-
Contracts of functions, each proved by a walk through its code.
-/
import Derived.Test.YtbgdjdhbejbhkaaDoorEngWEtc
import Derived.Test.YtbgdjdhbejbhkaaDoorProg
set_option linter.unusedVariables false
namespace Go.Proofs.YtbgdjdhbejbhkaaDoor
open Go.Eng
theorem hmix : Tryd.prog.follows .mixedOrders = true := by kernel_rfl
instance ti0 : TI Tryd.prog 0 (.tuple #[]) (.tuple #[]) 1 0 := ⟨Tryd.underlying0, by kernel_rfl⟩
instance ti1 : TI Tryd.prog 1 (.func #[] #[] false) (.nilFunc) 1 8 := ⟨Tryd.underlying1, by kernel_rfl⟩
instance ti2 : TI Tryd.prog 2 (.int .i64) (.int .i64 0) 1 8 := ⟨Tryd.underlying2, by kernel_rfl⟩
instance ti3 : TI Tryd.prog 3 (.int .i64) (.int .i64 0) 1 8 := ⟨Tryd.underlying3, by kernel_rfl⟩
instance ti4 : TI Tryd.prog 4 (.bool) (.bool false) 1 1 := ⟨Tryd.underlying4, by kernel_rfl⟩
instance ti5 : TI Tryd.prog 5 (.int .u8) (.int .u8 0) 1 1 := ⟨Tryd.underlying5, by kernel_rfl⟩
instance ti6 : TI Tryd.prog 6 (.int .u8) (.int .u8 0) 1 1 := ⟨Tryd.underlying6, by kernel_rfl⟩
instance ti7 : TI Tryd.prog 7 (.struct #[⟨ "x", 2, 0, false, "", "runtime", 0⟩, ⟨ "y", 3, 1, false, "", "runtime", 8⟩, ⟨ "signed", 4, 2, false, "", "runtime", 16⟩, ⟨ "code", 6, 3, false, "", "runtime", 17⟩]) (.agg #[.int .i64 0, .int .i64 0, .bool false, .int .u8 0]) 4 24 := ⟨Tryd.underlying7, by kernel_rfl⟩
instance si7 : SI Tryd.prog #[⟨ "x", 2, 0, false, "", "runtime", 0⟩, ⟨ "y", 3, 1, false, "", "runtime", 8⟩, ⟨ "signed", 4, 2, false, "", "runtime", 16⟩, ⟨ "code", 6, 3, false, "", "runtime", 17⟩] [(0, 1), (1, 1), (2, 1), (3, 1)] := ⟨fun w => by kernel_rfl⟩
instance ti8 : TI Tryd.prog 8 (.struct #[⟨ "x", 2, 0, false, "", "runtime", 0⟩, ⟨ "y", 3, 1, false, "", "runtime", 8⟩, ⟨ "signed", 4, 2, false, "", "runtime", 16⟩, ⟨ "code", 6, 3, false, "", "runtime", 17⟩]) (.agg #[.int .i64 0, .int .i64 0, .bool false, .int .u8 0]) 4 24 := ⟨Tryd.underlying8, by kernel_rfl⟩
instance ti9 : TI Tryd.prog 9 (.string) (.string ⟨#[]⟩) 1 16 := ⟨Tryd.underlying9, by kernel_rfl⟩
instance ti10 : TI Tryd.prog 10 (.string) (.string ⟨#[]⟩) 1 16 := ⟨Tryd.underlying10, by kernel_rfl⟩
instance ti11 : TI Tryd.prog 11 (.string) (.string ⟨#[]⟩) 1 16 := ⟨Tryd.underlying11, by kernel_rfl⟩
instance ti12 : TI Tryd.prog 12 (.int .u64) (.int .u64 0) 1 8 := ⟨Tryd.underlying12, by kernel_rfl⟩
instance ti13 : TI Tryd.prog 13 (.struct #[⟨ "msg", 9, 0, false, "", "runtime", 0⟩, ⟨ "addr", 12, 1, false, "", "runtime", 16⟩]) (.agg #[.string ⟨#[]⟩, .int .u64 0]) 2 24 := ⟨Tryd.underlying13, by kernel_rfl⟩
instance si13 : SI Tryd.prog #[⟨ "msg", 9, 0, false, "", "runtime", 0⟩, ⟨ "addr", 12, 1, false, "", "runtime", 16⟩] [(0, 1), (1, 1)] := ⟨fun w => by kernel_rfl⟩
instance ti14 : TI Tryd.prog 14 (.struct #[⟨ "msg", 9, 0, false, "", "runtime", 0⟩, ⟨ "addr", 12, 1, false, "", "runtime", 16⟩]) (.agg #[.string ⟨#[]⟩, .int .u64 0]) 2 24 := ⟨Tryd.underlying14, by kernel_rfl⟩
instance ti15 : TI Tryd.prog 15 (.pointer 264) (.pointer none) 1 8 := ⟨Tryd.underlying15, by kernel_rfl⟩
instance ti16 : TI Tryd.prog 16 (.pointer 267) (.pointer none) 1 8 := ⟨Tryd.underlying16, by kernel_rfl⟩
instance ti17 : TI Tryd.prog 17 (.pointer 275) (.pointer none) 1 8 := ⟨Tryd.underlying17, by kernel_rfl⟩
instance ti18 : TI Tryd.prog 18 (.struct #[⟨ "typ", 17, 0, false, "", "internal/runtime/maps", 0⟩]) (.agg #[.pointer none]) 1 8 := ⟨Tryd.underlying18, by kernel_rfl⟩
instance si18 : SI Tryd.prog #[⟨ "typ", 17, 0, false, "", "internal/runtime/maps", 0⟩] [(0, 1)] := ⟨fun w => by kernel_rfl⟩
instance ti19 : TI Tryd.prog 19 (.struct #[⟨ "typ", 17, 0, false, "", "internal/runtime/maps", 0⟩]) (.agg #[.pointer none]) 1 8 := ⟨Tryd.underlying19, by kernel_rfl⟩
instance ti20 : TI Tryd.prog 20 (.interface #[]) (.nilIface) 1 16 := ⟨Tryd.underlying20, by kernel_rfl⟩
instance ti21 : TI Tryd.prog 21 (.int .i32) (.int .i32 0) 1 4 := ⟨Tryd.underlying21, by kernel_rfl⟩
instance ti22 : TI Tryd.prog 22 (.slice 115) (.slice none 0 0) 1 24 := ⟨Tryd.underlying22, by kernel_rfl⟩
instance ti23 : TI Tryd.prog 23 (.int .u64) (.int .u64 0) 1 8 := ⟨Tryd.underlying23, by kernel_rfl⟩
instance ti24 : TI Tryd.prog 24 (.func #[] #[4] false) (.nilFunc) 1 8 := ⟨Tryd.underlying24, by kernel_rfl⟩
instance ti25 : TI Tryd.prog 25 (.func #[22] #[4] false) (.nilFunc) 1 8 := ⟨Tryd.underlying25, by kernel_rfl⟩
instance ti26 : TI Tryd.prog 26 (.func #[22] #[23] false) (.nilFunc) 1 8 := ⟨Tryd.underlying26, by kernel_rfl⟩
instance ti27 : TI Tryd.prog 27 (.slice 31) (.slice none 0 0) 1 24 := ⟨Tryd.underlying27, by kernel_rfl⟩
instance ti28 : TI Tryd.prog 28 (.int .i64) (.int .i64 0) 1 8 := ⟨Tryd.underlying28, by kernel_rfl⟩
instance ti29 : TI Tryd.prog 29 (.tuple #[27, 28]) (.tuple #[.slice none 0 0, .int .i64 0]) 1 0 := ⟨Tryd.underlying29, by kernel_rfl⟩
instance ti30 : TI Tryd.prog 30 (.func #[22, 23] #[27, 28] false) (.nilFunc) 1 8 := ⟨Tryd.underlying30, by kernel_rfl⟩
instance ti31 : TI Tryd.prog 31 (.int .u32) (.int .u32 0) 1 4 := ⟨Tryd.underlying31, by kernel_rfl⟩
instance ti32 : TI Tryd.prog 32 (.func #[22, 23] #[4] false) (.nilFunc) 1 8 := ⟨Tryd.underlying32, by kernel_rfl⟩
instance ti33 : TI Tryd.prog 33 (.pointer 134) (.pointer none) 1 8 := ⟨Tryd.underlying33, by kernel_rfl⟩
instance ti34 : TI Tryd.prog 34 (.tuple #[33, 28]) (.tuple #[.pointer none, .int .i64 0]) 1 0 := ⟨Tryd.underlying34, by kernel_rfl⟩
instance ti35 : TI Tryd.prog 35 (.func #[3] #[33, 28] false) (.nilFunc) 1 8 := ⟨Tryd.underlying35, by kernel_rfl⟩
instance ti36 : TI Tryd.prog 36 (.pointer 138) (.pointer none) 1 8 := ⟨Tryd.underlying36, by kernel_rfl⟩
instance ti37 : TI Tryd.prog 37 (.tuple #[36, 28]) (.tuple #[.pointer none, .int .i64 0]) 1 0 := ⟨Tryd.underlying37, by kernel_rfl⟩
instance ti38 : TI Tryd.prog 38 (.func #[33, 3, 3] #[36, 28] false) (.nilFunc) 1 8 := ⟨Tryd.underlying38, by kernel_rfl⟩
instance ti39 : TI Tryd.prog 39 (.func #[40, 3, 3] #[4] false) (.nilFunc) 1 8 := ⟨Tryd.underlying39, by kernel_rfl⟩
instance ti40 : TI Tryd.prog 40 (.pointer 74) (.pointer none) 1 8 := ⟨Tryd.underlying40, by kernel_rfl⟩
instance ti41 : TI Tryd.prog 41 (.func #[3] #[40] false) (.nilFunc) 1 8 := ⟨Tryd.underlying41, by kernel_rfl⟩
instance ti42 : TI Tryd.prog 42 (.func #[3] #[3] false) (.nilFunc) 1 8 := ⟨Tryd.underlying42, by kernel_rfl⟩
instance ti43 : TI Tryd.prog 43 (.func #[5, 3, 3] #[4] false) (.nilFunc) 1 8 := ⟨Tryd.underlying43, by kernel_rfl⟩
instance ti44 : TI Tryd.prog 44 (.slice 45) (.slice none 0 0) 1 24 := ⟨Tryd.underlying44, by kernel_rfl⟩
instance ti45 : TI Tryd.prog 45 (.slice 5) (.slice none 0 0) 1 24 := ⟨Tryd.underlying45, by kernel_rfl⟩
instance ti46 : TI Tryd.prog 46 (.func #[45] #[28] false) (.nilFunc) 1 8 := ⟨Tryd.underlying46, by kernel_rfl⟩
instance ti47 : TI Tryd.prog 47 (.func #[] #[44] false) (.nilFunc) 1 8 := ⟨Tryd.underlying47, by kernel_rfl⟩
instance ti48 : TI Tryd.prog 48 (.tuple #[23, 4]) (.tuple #[.int .u64 0, .bool false]) 1 0 := ⟨Tryd.underlying48, by kernel_rfl⟩
instance ti49 : TI Tryd.prog 49 (.func #[45] #[23, 4] false) (.nilFunc) 1 8 := ⟨Tryd.underlying49, by kernel_rfl⟩
instance ti50 : TI Tryd.prog 50 (.tuple #[45, 23, 28]) (.tuple #[.slice none 0 0, .int .u64 0, .int .i64 0]) 1 0 := ⟨Tryd.underlying50, by kernel_rfl⟩
instance ti51 : TI Tryd.prog 51 (.func #[] #[45, 23, 28] false) (.nilFunc) 1 8 := ⟨Tryd.underlying51, by kernel_rfl⟩
instance ti52 : TI Tryd.prog 52 (.func #[45, 45] #[4] false) (.nilFunc) 1 8 := ⟨Tryd.underlying52, by kernel_rfl⟩
instance ti53 : TI Tryd.prog 53 (.func #[44] #[4] false) (.nilFunc) 1 8 := ⟨Tryd.underlying53, by kernel_rfl⟩
instance ti54 : TI Tryd.prog 54 (.func #[3, 45] #[28] false) (.nilFunc) 1 8 := ⟨Tryd.underlying54, by kernel_rfl⟩
instance ti55 : TI Tryd.prog 55 (.tuple #[45, 23]) (.tuple #[.slice none 0 0, .int .u64 0]) 1 0 := ⟨Tryd.underlying55, by kernel_rfl⟩
instance ti56 : TI Tryd.prog 56 (.func #[] #[45, 23] false) (.nilFunc) 1 8 := ⟨Tryd.underlying56, by kernel_rfl⟩
instance ti57 : TI Tryd.prog 57 (.func #[5, 3] #[45] false) (.nilFunc) 1 8 := ⟨Tryd.underlying57, by kernel_rfl⟩
instance ti58 : TI Tryd.prog 58 (.tuple #[3, 3]) (.tuple #[.int .i64 0, .int .i64 0]) 1 0 := ⟨Tryd.underlying58, by kernel_rfl⟩
instance ti59 : TI Tryd.prog 59 (.func #[] #[3, 3] false) (.nilFunc) 1 8 := ⟨Tryd.underlying59, by kernel_rfl⟩
instance ti60 : TI Tryd.prog 60 (.func #[5, 5] #[4] false) (.nilFunc) 1 8 := ⟨Tryd.underlying60, by kernel_rfl⟩
instance ti61 : TI Tryd.prog 61 (.slice 68) (.slice none 0 0) 1 24 := ⟨Tryd.underlying61, by kernel_rfl⟩
instance ti62 : TI Tryd.prog 62 (.pointer 77) (.pointer none) 1 8 := ⟨Tryd.underlying62, by kernel_rfl⟩
instance ti63 : TI Tryd.prog 63 (.func #[40, 3, 3] #[62] false) (.nilFunc) 1 8 := ⟨Tryd.underlying63, by kernel_rfl⟩
instance ti64 : TI Tryd.prog 64 (.slice 3) (.slice none 0 0) 1 24 := ⟨Tryd.underlying64, by kernel_rfl⟩
instance ti65 : TI Tryd.prog 65 (.struct #[⟨ "Fail", 64, 0, false, "", "", 0⟩, ⟨ "Stop", 3, 1, false, "", "", 24⟩]) (.agg #[.slice none 0 0, .int .i64 0]) 2 32 := ⟨Tryd.underlying65, by kernel_rfl⟩
instance si65 : SI Tryd.prog #[⟨ "Fail", 64, 0, false, "", "", 0⟩, ⟨ "Stop", 3, 1, false, "", "", 24⟩] [(0, 1), (1, 1)] := ⟨fun w => by kernel_rfl⟩
instance ti66 : TI Tryd.prog 66 (.struct #[⟨ "Fail", 64, 0, false, "", "", 0⟩, ⟨ "Stop", 3, 1, false, "", "", 24⟩]) (.agg #[.slice none 0 0, .int .i64 0]) 2 32 := ⟨Tryd.underlying66, by kernel_rfl⟩
instance ti67 : TI Tryd.prog 67 (.struct #[⟨ "Kind", 3, 0, false, "", "", 0⟩, ⟨ "I", 3, 1, false, "", "", 8⟩, ⟨ "B", 45, 2, false, "", "", 16⟩, ⟨ "Choices", 45, 3, false, "", "", 40⟩, ⟨ "Plan", 66, 4, false, "", "", 64⟩]) (.agg #[.int .i64 0, .int .i64 0, .slice none 0 0, .slice none 0 0, .slice none 0 0, .int .i64 0]) 6 96 := ⟨Tryd.underlying67, by kernel_rfl⟩
instance si67 : SI Tryd.prog #[⟨ "Kind", 3, 0, false, "", "", 0⟩, ⟨ "I", 3, 1, false, "", "", 8⟩, ⟨ "B", 45, 2, false, "", "", 16⟩, ⟨ "Choices", 45, 3, false, "", "", 40⟩, ⟨ "Plan", 66, 4, false, "", "", 64⟩] [(0, 1), (1, 1), (2, 1), (3, 1), (4, 2)] := ⟨fun w => by kernel_rfl⟩
instance ti68 : TI Tryd.prog 68 (.struct #[⟨ "Kind", 3, 0, false, "", "", 0⟩, ⟨ "I", 3, 1, false, "", "", 8⟩, ⟨ "B", 45, 2, false, "", "", 16⟩, ⟨ "Choices", 45, 3, false, "", "", 40⟩, ⟨ "Plan", 66, 4, false, "", "", 64⟩]) (.agg #[.int .i64 0, .int .i64 0, .slice none 0 0, .slice none 0 0, .slice none 0 0, .int .i64 0]) 6 96 := ⟨Tryd.underlying68, by kernel_rfl⟩
instance ti69 : TI Tryd.prog 69 (.func #[68] #[4] false) (.nilFunc) 1 8 := ⟨Tryd.underlying69, by kernel_rfl⟩
instance ti70 : TI Tryd.prog 70 (.func #[45, 66] #[] false) (.nilFunc) 1 8 := ⟨Tryd.underlying70, by kernel_rfl⟩
instance ti71 : TI Tryd.prog 71 (.func #[66] #[] false) (.nilFunc) 1 8 := ⟨Tryd.underlying71, by kernel_rfl⟩
instance ti72 : TI Tryd.prog 72 (.slice 147) (.slice none 0 0) 1 24 := ⟨Tryd.underlying72, by kernel_rfl⟩
instance ti73 : TI Tryd.prog 73 (.struct #[⟨ "Laid", 72, 0, false, "", "", 0⟩, ⟨ "Sure_", 44, 1, false, "", "", 24⟩, ⟨ "Where", 64, 2, false, "", "", 48⟩, ⟨ "What", 44, 3, false, "", "", 72⟩, ⟨ "Plan_", 66, 4, false, "", "", 96⟩, ⟨ "Counted", 3, 6, false, "", "", 128⟩, ⟨ "Off", 4, 7, false, "", "", 136⟩]) (.agg #[.slice none 0 0, .slice none 0 0, .slice none 0 0, .slice none 0 0, .slice none 0 0, .int .i64 0, .int .i64 0, .bool false]) 8 144 := ⟨Tryd.underlying73, by kernel_rfl⟩
instance si73 : SI Tryd.prog #[⟨ "Laid", 72, 0, false, "", "", 0⟩, ⟨ "Sure_", 44, 1, false, "", "", 24⟩, ⟨ "Where", 64, 2, false, "", "", 48⟩, ⟨ "What", 44, 3, false, "", "", 72⟩, ⟨ "Plan_", 66, 4, false, "", "", 96⟩, ⟨ "Counted", 3, 6, false, "", "", 128⟩, ⟨ "Off", 4, 7, false, "", "", 136⟩] [(0, 1), (1, 1), (2, 1), (3, 1), (4, 2), (6, 1), (7, 1)] := ⟨fun w => by kernel_rfl⟩
instance ti74 : TI Tryd.prog 74 (.struct #[⟨ "Laid", 72, 0, false, "", "", 0⟩, ⟨ "Sure_", 44, 1, false, "", "", 24⟩, ⟨ "Where", 64, 2, false, "", "", 48⟩, ⟨ "What", 44, 3, false, "", "", 72⟩, ⟨ "Plan_", 66, 4, false, "", "", 96⟩, ⟨ "Counted", 3, 6, false, "", "", 128⟩, ⟨ "Off", 4, 7, false, "", "", 136⟩]) (.agg #[.slice none 0 0, .slice none 0 0, .slice none 0 0, .slice none 0 0, .slice none 0 0, .int .i64 0, .int .i64 0, .bool false]) 8 144 := ⟨Tryd.underlying74, by kernel_rfl⟩
instance ti75 : TI Tryd.prog 75 (.func #[45] #[45] false) (.nilFunc) 1 8 := ⟨Tryd.underlying75, by kernel_rfl⟩
instance ti76 : TI Tryd.prog 76 (.struct #[⟨ "D", 40, 0, false, "", "", 0⟩, ⟨ "First", 3, 1, false, "", "", 8⟩, ⟨ "N", 3, 2, false, "", "", 16⟩, ⟨ "At", 3, 3, false, "", "", 24⟩, ⟨ "Num", 23, 4, false, "", "", 32⟩, ⟨ "B", 45, 5, false, "", "", 40⟩]) (.agg #[.pointer none, .int .i64 0, .int .i64 0, .int .i64 0, .int .u64 0, .slice none 0 0]) 6 64 := ⟨Tryd.underlying76, by kernel_rfl⟩
instance si76 : SI Tryd.prog #[⟨ "D", 40, 0, false, "", "", 0⟩, ⟨ "First", 3, 1, false, "", "", 8⟩, ⟨ "N", 3, 2, false, "", "", 16⟩, ⟨ "At", 3, 3, false, "", "", 24⟩, ⟨ "Num", 23, 4, false, "", "", 32⟩, ⟨ "B", 45, 5, false, "", "", 40⟩] [(0, 1), (1, 1), (2, 1), (3, 1), (4, 1), (5, 1)] := ⟨fun w => by kernel_rfl⟩
instance ti77 : TI Tryd.prog 77 (.struct #[⟨ "D", 40, 0, false, "", "", 0⟩, ⟨ "First", 3, 1, false, "", "", 8⟩, ⟨ "N", 3, 2, false, "", "", 16⟩, ⟨ "At", 3, 3, false, "", "", 24⟩, ⟨ "Num", 23, 4, false, "", "", 32⟩, ⟨ "B", 45, 5, false, "", "", 40⟩]) (.agg #[.pointer none, .int .i64 0, .int .i64 0, .int .i64 0, .int .u64 0, .slice none 0 0]) 6 64 := ⟨Tryd.underlying77, by kernel_rfl⟩
instance ti78 : TI Tryd.prog 78 (.func #[44, 44] #[4] false) (.nilFunc) 1 8 := ⟨Tryd.underlying78, by kernel_rfl⟩
instance ti79 : TI Tryd.prog 79 (.func #[5, 5, 61] #[4] false) (.nilFunc) 1 8 := ⟨Tryd.underlying79, by kernel_rfl⟩
instance ti80 : TI Tryd.prog 80 (.struct #[⟨ "Total", 23, 0, false, "", "", 0⟩, ⟨ "Batch", 23, 1, false, "", "", 8⟩, ⟨ "Reserved", 23, 2, false, "", "", 16⟩, ⟨ "Next", 23, 3, false, "", "", 24⟩, ⟨ "Retired", 4, 4, false, "", "", 32⟩]) (.agg #[.int .u64 0, .int .u64 0, .int .u64 0, .int .u64 0, .bool false]) 5 40 := ⟨Tryd.underlying80, by kernel_rfl⟩
instance si80 : SI Tryd.prog #[⟨ "Total", 23, 0, false, "", "", 0⟩, ⟨ "Batch", 23, 1, false, "", "", 8⟩, ⟨ "Reserved", 23, 2, false, "", "", 16⟩, ⟨ "Next", 23, 3, false, "", "", 24⟩, ⟨ "Retired", 4, 4, false, "", "", 32⟩] [(0, 1), (1, 1), (2, 1), (3, 1), (4, 1)] := ⟨fun w => by kernel_rfl⟩
instance ti81 : TI Tryd.prog 81 (.struct #[⟨ "Total", 23, 0, false, "", "", 0⟩, ⟨ "Batch", 23, 1, false, "", "", 8⟩, ⟨ "Reserved", 23, 2, false, "", "", 16⟩, ⟨ "Next", 23, 3, false, "", "", 24⟩, ⟨ "Retired", 4, 4, false, "", "", 32⟩]) (.agg #[.int .u64 0, .int .u64 0, .int .u64 0, .int .u64 0, .bool false]) 5 40 := ⟨Tryd.underlying81, by kernel_rfl⟩
instance ti82 : TI Tryd.prog 82 (.tuple #[45, 28]) (.tuple #[.slice none 0 0, .int .i64 0]) 1 0 := ⟨Tryd.underlying82, by kernel_rfl⟩
instance ti83 : TI Tryd.prog 83 (.func #[81, 45] #[45, 28] false) (.nilFunc) 1 8 := ⟨Tryd.underlying83, by kernel_rfl⟩
instance ti84 : TI Tryd.prog 84 (.tuple #[81, 45, 28]) (.tuple #[.agg #[.int .u64 0, .int .u64 0, .int .u64 0, .int .u64 0, .bool false], .slice none 0 0, .int .i64 0]) 1 0 := ⟨Tryd.underlying84, by kernel_rfl⟩
instance ti85 : TI Tryd.prog 85 (.func #[45] #[81, 45, 28] false) (.nilFunc) 1 8 := ⟨Tryd.underlying85, by kernel_rfl⟩
instance ti86 : TI Tryd.prog 86 (.func #[81, 45, 45] #[4] false) (.nilFunc) 1 8 := ⟨Tryd.underlying86, by kernel_rfl⟩
instance ti87 : TI Tryd.prog 87 (.pointer 160) (.pointer none) 1 8 := ⟨Tryd.underlying87, by kernel_rfl⟩
instance ti88 : TI Tryd.prog 88 (.tuple #[87, 28]) (.tuple #[.pointer none, .int .i64 0]) 1 0 := ⟨Tryd.underlying88, by kernel_rfl⟩
instance ti89 : TI Tryd.prog 89 (.func #[36, 45, 23, 23] #[87, 28] false) (.nilFunc) 1 8 := ⟨Tryd.underlying89, by kernel_rfl⟩
instance ti90 : TI Tryd.prog 90 (.tuple #[23, 28]) (.tuple #[.int .u64 0, .int .i64 0]) 1 0 := ⟨Tryd.underlying90, by kernel_rfl⟩
instance ti91 : TI Tryd.prog 91 (.func #[] #[23, 28] false) (.nilFunc) 1 8 := ⟨Tryd.underlying91, by kernel_rfl⟩
instance ti92 : TI Tryd.prog 92 (.func #[] #[45] false) (.nilFunc) 1 8 := ⟨Tryd.underlying92, by kernel_rfl⟩
instance ti93 : TI Tryd.prog 93 (.func #[36] #[87, 28] false) (.nilFunc) 1 8 := ⟨Tryd.underlying93, by kernel_rfl⟩
instance ti94 : TI Tryd.prog 94 (.func #[] #[81] false) (.nilFunc) 1 8 := ⟨Tryd.underlying94, by kernel_rfl⟩
instance ti95 : TI Tryd.prog 95 (.func #[45, 5] #[4] false) (.nilFunc) 1 8 := ⟨Tryd.underlying95, by kernel_rfl⟩
instance ti96 : TI Tryd.prog 96 (.array 2 45) (.agg #[.slice none 0 0, .slice none 0 0]) 2 48 := ⟨Tryd.underlying96, by kernel_rfl⟩
instance ti97 : TI Tryd.prog 97 (.func #[81, 81, 96] #[4] false) (.nilFunc) 1 8 := ⟨Tryd.underlying97, by kernel_rfl⟩
instance ti98 : TI Tryd.prog 98 (.slice 4) (.slice none 0 0) 1 24 := ⟨Tryd.underlying98, by kernel_rfl⟩
instance ti99 : TI Tryd.prog 99 (.func #[5, 98] #[4] false) (.nilFunc) 1 8 := ⟨Tryd.underlying99, by kernel_rfl⟩
instance ti100 : TI Tryd.prog 100 (.struct #[⟨ "Total", 23, 0, false, "", "", 0⟩, ⟨ "Batch", 23, 1, false, "", "", 8⟩, ⟨ "Head", 45, 2, false, "", "", 16⟩]) (.agg #[.int .u64 0, .int .u64 0, .slice none 0 0]) 3 40 := ⟨Tryd.underlying100, by kernel_rfl⟩
instance si100 : SI Tryd.prog #[⟨ "Total", 23, 0, false, "", "", 0⟩, ⟨ "Batch", 23, 1, false, "", "", 8⟩, ⟨ "Head", 45, 2, false, "", "", 16⟩] [(0, 1), (1, 1), (2, 1)] := ⟨fun w => by kernel_rfl⟩
instance ti101 : TI Tryd.prog 101 (.struct #[⟨ "Total", 23, 0, false, "", "", 0⟩, ⟨ "Batch", 23, 1, false, "", "", 8⟩, ⟨ "Head", 45, 2, false, "", "", 16⟩]) (.agg #[.int .u64 0, .int .u64 0, .slice none 0 0]) 3 40 := ⟨Tryd.underlying101, by kernel_rfl⟩
instance ti102 : TI Tryd.prog 102 (.slice 109) (.slice none 0 0) 1 24 := ⟨Tryd.underlying102, by kernel_rfl⟩
instance ti103 : TI Tryd.prog 103 (.pointer 107) (.pointer none) 1 8 := ⟨Tryd.underlying103, by kernel_rfl⟩
instance ti104 : TI Tryd.prog 104 (.tuple #[103, 28]) (.tuple #[.pointer none, .int .i64 0]) 1 0 := ⟨Tryd.underlying104, by kernel_rfl⟩
instance ti105 : TI Tryd.prog 105 (.func #[62, 45, 23, 23] #[103, 28] false) (.nilFunc) 1 8 := ⟨Tryd.underlying105, by kernel_rfl⟩
instance ti106 : TI Tryd.prog 106 (.struct #[⟨ "Is", 4, 0, false, "", "", 0⟩, ⟨ "X", 81, 1, false, "", "", 8⟩, ⟨ "Head", 45, 6, false, "", "", 48⟩, ⟨ "S", 62, 7, false, "", "", 72⟩]) (.agg #[.bool false, .int .u64 0, .int .u64 0, .int .u64 0, .int .u64 0, .bool false, .slice none 0 0, .pointer none]) 8 80 := ⟨Tryd.underlying106, by kernel_rfl⟩
instance si106 : SI Tryd.prog #[⟨ "Is", 4, 0, false, "", "", 0⟩, ⟨ "X", 81, 1, false, "", "", 8⟩, ⟨ "Head", 45, 6, false, "", "", 48⟩, ⟨ "S", 62, 7, false, "", "", 72⟩] [(0, 1), (1, 5), (6, 1), (7, 1)] := ⟨fun w => by kernel_rfl⟩
instance ti107 : TI Tryd.prog 107 (.struct #[⟨ "Is", 4, 0, false, "", "", 0⟩, ⟨ "X", 81, 1, false, "", "", 8⟩, ⟨ "Head", 45, 6, false, "", "", 48⟩, ⟨ "S", 62, 7, false, "", "", 72⟩]) (.agg #[.bool false, .int .u64 0, .int .u64 0, .int .u64 0, .int .u64 0, .bool false, .slice none 0 0, .pointer none]) 8 80 := ⟨Tryd.underlying107, by kernel_rfl⟩
instance ti108 : TI Tryd.prog 108 (.struct #[⟨ "Kind", 3, 0, false, "", "", 0⟩, ⟨ "Choices", 45, 1, false, "", "", 8⟩, ⟨ "Plan", 66, 2, false, "", "", 32⟩]) (.agg #[.int .i64 0, .slice none 0 0, .slice none 0 0, .int .i64 0]) 4 64 := ⟨Tryd.underlying108, by kernel_rfl⟩
instance si108 : SI Tryd.prog #[⟨ "Kind", 3, 0, false, "", "", 0⟩, ⟨ "Choices", 45, 1, false, "", "", 8⟩, ⟨ "Plan", 66, 2, false, "", "", 32⟩] [(0, 1), (1, 1), (2, 2)] := ⟨fun w => by kernel_rfl⟩
instance ti109 : TI Tryd.prog 109 (.struct #[⟨ "Kind", 3, 0, false, "", "", 0⟩, ⟨ "Choices", 45, 1, false, "", "", 8⟩, ⟨ "Plan", 66, 2, false, "", "", 32⟩]) (.agg #[.int .i64 0, .slice none 0 0, .slice none 0 0, .int .i64 0]) 4 64 := ⟨Tryd.underlying109, by kernel_rfl⟩
instance ti110 : TI Tryd.prog 110 (.func #[109] #[4] false) (.nilFunc) 1 8 := ⟨Tryd.underlying110, by kernel_rfl⟩
instance ti111 : TI Tryd.prog 111 (.func #[] #[28] false) (.nilFunc) 1 8 := ⟨Tryd.underlying111, by kernel_rfl⟩
instance ti112 : TI Tryd.prog 112 (.func #[62] #[103, 28] false) (.nilFunc) 1 8 := ⟨Tryd.underlying112, by kernel_rfl⟩
instance ti113 : TI Tryd.prog 113 (.func #[101, 102] #[4] false) (.nilFunc) 1 8 := ⟨Tryd.underlying113, by kernel_rfl⟩
instance ti114 : TI Tryd.prog 114 (.struct #[⟨ "Ots", 31, 0, false, "", "", 0⟩, ⟨ "Tree", 31, 1, false, "", "", 4⟩]) (.agg #[.int .u32 0, .int .u32 0]) 2 8 := ⟨Tryd.underlying114, by kernel_rfl⟩
instance si114 : SI Tryd.prog #[⟨ "Ots", 31, 0, false, "", "", 0⟩, ⟨ "Tree", 31, 1, false, "", "", 4⟩] [(0, 1), (1, 1)] := ⟨fun w => by kernel_rfl⟩
instance ti115 : TI Tryd.prog 115 (.struct #[⟨ "Ots", 31, 0, false, "", "", 0⟩, ⟨ "Tree", 31, 1, false, "", "", 4⟩]) (.agg #[.int .u32 0, .int .u32 0]) 2 8 := ⟨Tryd.underlying115, by kernel_rfl⟩
instance ti116 : TI Tryd.prog 116 (.func #[45, 45] #[27, 28] false) (.nilFunc) 1 8 := ⟨Tryd.underlying116, by kernel_rfl⟩
instance ti117 : TI Tryd.prog 117 (.func #[27, 27] #[4] false) (.nilFunc) 1 8 := ⟨Tryd.underlying117, by kernel_rfl⟩
instance ti118 : TI Tryd.prog 118 (.struct #[⟨ "Code", 31, 0, false, "", "", 0⟩, ⟨ "Kind", 3, 1, false, "", "", 8⟩, ⟨ "N", 3, 2, false, "", "", 16⟩, ⟨ "W", 3, 3, false, "", "", 24⟩, ⟨ "P", 3, 4, false, "", "", 32⟩, ⟨ "Shift", 3, 5, false, "", "", 40⟩]) (.agg #[.int .u32 0, .int .i64 0, .int .i64 0, .int .i64 0, .int .i64 0, .int .i64 0]) 6 48 := ⟨Tryd.underlying118, by kernel_rfl⟩
instance si118 : SI Tryd.prog #[⟨ "Code", 31, 0, false, "", "", 0⟩, ⟨ "Kind", 3, 1, false, "", "", 8⟩, ⟨ "N", 3, 2, false, "", "", 16⟩, ⟨ "W", 3, 3, false, "", "", 24⟩, ⟨ "P", 3, 4, false, "", "", 32⟩, ⟨ "Shift", 3, 5, false, "", "", 40⟩] [(0, 1), (1, 1), (2, 1), (3, 1), (4, 1), (5, 1)] := ⟨fun w => by kernel_rfl⟩
instance ti119 : TI Tryd.prog 119 (.struct #[⟨ "Code", 31, 0, false, "", "", 0⟩, ⟨ "Kind", 3, 1, false, "", "", 8⟩, ⟨ "N", 3, 2, false, "", "", 16⟩, ⟨ "W", 3, 3, false, "", "", 24⟩, ⟨ "P", 3, 4, false, "", "", 32⟩, ⟨ "Shift", 3, 5, false, "", "", 40⟩]) (.agg #[.int .u32 0, .int .i64 0, .int .i64 0, .int .i64 0, .int .i64 0, .int .i64 0]) 6 48 := ⟨Tryd.underlying119, by kernel_rfl⟩
instance ti120 : TI Tryd.prog 120 (.struct #[⟨ "Code", 31, 0, false, "", "", 0⟩, ⟨ "Kind", 3, 1, false, "", "", 8⟩, ⟨ "N", 3, 2, false, "", "", 16⟩, ⟨ "H", 3, 3, false, "", "", 24⟩]) (.agg #[.int .u32 0, .int .i64 0, .int .i64 0, .int .i64 0]) 4 32 := ⟨Tryd.underlying120, by kernel_rfl⟩
instance si120 : SI Tryd.prog #[⟨ "Code", 31, 0, false, "", "", 0⟩, ⟨ "Kind", 3, 1, false, "", "", 8⟩, ⟨ "N", 3, 2, false, "", "", 16⟩, ⟨ "H", 3, 3, false, "", "", 24⟩] [(0, 1), (1, 1), (2, 1), (3, 1)] := ⟨fun w => by kernel_rfl⟩
instance ti121 : TI Tryd.prog 121 (.struct #[⟨ "Code", 31, 0, false, "", "", 0⟩, ⟨ "Kind", 3, 1, false, "", "", 8⟩, ⟨ "N", 3, 2, false, "", "", 16⟩, ⟨ "H", 3, 3, false, "", "", 24⟩]) (.agg #[.int .u32 0, .int .i64 0, .int .i64 0, .int .i64 0]) 4 32 := ⟨Tryd.underlying121, by kernel_rfl⟩
instance ti122 : TI Tryd.prog 122 (.tuple #[119, 121, 4]) (.tuple #[.agg #[.int .u32 0, .int .i64 0, .int .i64 0, .int .i64 0, .int .i64 0, .int .i64 0], .agg #[.int .u32 0, .int .i64 0, .int .i64 0, .int .i64 0], .bool false]) 1 0 := ⟨Tryd.underlying122, by kernel_rfl⟩
instance ti123 : TI Tryd.prog 123 (.func #[115] #[119, 121, 4] false) (.nilFunc) 1 8 := ⟨Tryd.underlying123, by kernel_rfl⟩
instance ti124 : TI Tryd.prog 124 (.func #[128] #[23, 28] false) (.nilFunc) 1 8 := ⟨Tryd.underlying124, by kernel_rfl⟩
instance ti125 : TI Tryd.prog 125 (.func #[126] #[23] false) (.nilFunc) 1 8 := ⟨Tryd.underlying125, by kernel_rfl⟩
instance ti126 : TI Tryd.prog 126 (.slice 121) (.slice none 0 0) 1 24 := ⟨Tryd.underlying126, by kernel_rfl⟩
instance ti127 : TI Tryd.prog 127 (.func #[22] #[126] false) (.nilFunc) 1 8 := ⟨Tryd.underlying127, by kernel_rfl⟩
instance ti128 : TI Tryd.prog 128 (.func #[] #[23] false) (.nilFunc) 1 8 := ⟨Tryd.underlying128, by kernel_rfl⟩
instance ti129 : TI Tryd.prog 129 (.func #[131] #[27, 28] false) (.nilFunc) 1 8 := ⟨Tryd.underlying129, by kernel_rfl⟩
instance ti130 : TI Tryd.prog 130 (.func #[22, 23] #[27] false) (.nilFunc) 1 8 := ⟨Tryd.underlying130, by kernel_rfl⟩
instance ti131 : TI Tryd.prog 131 (.func #[] #[27] false) (.nilFunc) 1 8 := ⟨Tryd.underlying131, by kernel_rfl⟩
instance ti132 : TI Tryd.prog 132 (.slice 144) (.slice none 0 0) 1 24 := ⟨Tryd.underlying132, by kernel_rfl⟩
instance ti133 : TI Tryd.prog 133 (.struct #[⟨ "sure", 44, 0, false, "", "tearoff/disk", 0⟩, ⟨ "pending", 132, 1, false, "", "tearoff/disk", 24⟩, ⟨ "plan", 66, 2, false, "", "tearoff/disk", 48⟩, ⟨ "count", 3, 4, false, "", "tearoff/disk", 80⟩, ⟨ "down", 4, 5, false, "", "tearoff/disk", 88⟩]) (.agg #[.slice none 0 0, .slice none 0 0, .slice none 0 0, .int .i64 0, .int .i64 0, .bool false]) 6 96 := ⟨Tryd.underlying133, by kernel_rfl⟩
instance si133 : SI Tryd.prog #[⟨ "sure", 44, 0, false, "", "tearoff/disk", 0⟩, ⟨ "pending", 132, 1, false, "", "tearoff/disk", 24⟩, ⟨ "plan", 66, 2, false, "", "tearoff/disk", 48⟩, ⟨ "count", 3, 4, false, "", "tearoff/disk", 80⟩, ⟨ "down", 4, 5, false, "", "tearoff/disk", 88⟩] [(0, 1), (1, 1), (2, 2), (4, 1), (5, 1)] := ⟨fun w => by kernel_rfl⟩
instance ti134 : TI Tryd.prog 134 (.struct #[⟨ "sure", 44, 0, false, "", "tearoff/disk", 0⟩, ⟨ "pending", 132, 1, false, "", "tearoff/disk", 24⟩, ⟨ "plan", 66, 2, false, "", "tearoff/disk", 48⟩, ⟨ "count", 3, 4, false, "", "tearoff/disk", 80⟩, ⟨ "down", 4, 5, false, "", "tearoff/disk", 88⟩]) (.agg #[.slice none 0 0, .slice none 0 0, .slice none 0 0, .int .i64 0, .int .i64 0, .bool false]) 6 96 := ⟨Tryd.underlying134, by kernel_rfl⟩
instance ti135 : TI Tryd.prog 135 (.struct #[⟨ "num", 23, 0, false, "", "tearoff/slots", 0⟩, ⟨ "b", 45, 1, false, "", "tearoff/slots", 8⟩]) (.agg #[.int .u64 0, .slice none 0 0]) 2 32 := ⟨Tryd.underlying135, by kernel_rfl⟩
instance si135 : SI Tryd.prog #[⟨ "num", 23, 0, false, "", "tearoff/slots", 0⟩, ⟨ "b", 45, 1, false, "", "tearoff/slots", 8⟩] [(0, 1), (1, 1)] := ⟨fun w => by kernel_rfl⟩
instance ti136 : TI Tryd.prog 136 (.struct #[⟨ "num", 23, 0, false, "", "tearoff/slots", 0⟩, ⟨ "b", 45, 1, false, "", "tearoff/slots", 8⟩]) (.agg #[.int .u64 0, .slice none 0 0]) 2 32 := ⟨Tryd.underlying136, by kernel_rfl⟩
instance ti137 : TI Tryd.prog 137 (.struct #[⟨ "d", 33, 0, false, "", "tearoff/slots", 0⟩, ⟨ "first", 3, 1, false, "", "tearoff/slots", 8⟩, ⟨ "n", 3, 2, false, "", "tearoff/slots", 16⟩, ⟨ "at", 3, 3, false, "", "tearoff/slots", 24⟩, ⟨ "now", 136, 4, false, "", "tearoff/slots", 32⟩]) (.agg #[.pointer none, .int .i64 0, .int .i64 0, .int .i64 0, .int .u64 0, .slice none 0 0]) 6 64 := ⟨Tryd.underlying137, by kernel_rfl⟩
instance si137 : SI Tryd.prog #[⟨ "d", 33, 0, false, "", "tearoff/slots", 0⟩, ⟨ "first", 3, 1, false, "", "tearoff/slots", 8⟩, ⟨ "n", 3, 2, false, "", "tearoff/slots", 16⟩, ⟨ "at", 3, 3, false, "", "tearoff/slots", 24⟩, ⟨ "now", 136, 4, false, "", "tearoff/slots", 32⟩] [(0, 1), (1, 1), (2, 1), (3, 1), (4, 2)] := ⟨fun w => by kernel_rfl⟩
instance ti138 : TI Tryd.prog 138 (.struct #[⟨ "d", 33, 0, false, "", "tearoff/slots", 0⟩, ⟨ "first", 3, 1, false, "", "tearoff/slots", 8⟩, ⟨ "n", 3, 2, false, "", "tearoff/slots", 16⟩, ⟨ "at", 3, 3, false, "", "tearoff/slots", 24⟩, ⟨ "now", 136, 4, false, "", "tearoff/slots", 32⟩]) (.agg #[.pointer none, .int .i64 0, .int .i64 0, .int .i64 0, .int .u64 0, .slice none 0 0]) 6 64 := ⟨Tryd.underlying138, by kernel_rfl⟩
instance ti139 : TI Tryd.prog 139 (.func #[1] #[28] false) (.nilFunc) 1 8 := ⟨Tryd.underlying139, by kernel_rfl⟩
instance ti140 : TI Tryd.prog 140 (.func #[136] #[45] false) (.nilFunc) 1 8 := ⟨Tryd.underlying140, by kernel_rfl⟩
instance ti141 : TI Tryd.prog 141 (.func #[28] #[] false) (.nilFunc) 1 8 := ⟨Tryd.underlying141, by kernel_rfl⟩
instance ti142 : TI Tryd.prog 142 (.func #[3] #[4] false) (.nilFunc) 1 8 := ⟨Tryd.underlying142, by kernel_rfl⟩
instance ti143 : TI Tryd.prog 143 (.struct #[⟨ "i", 3, 0, false, "", "tearoff/disk", 0⟩, ⟨ "b", 45, 1, false, "", "tearoff/disk", 8⟩]) (.agg #[.int .i64 0, .slice none 0 0]) 2 32 := ⟨Tryd.underlying143, by kernel_rfl⟩
instance si143 : SI Tryd.prog #[⟨ "i", 3, 0, false, "", "tearoff/disk", 0⟩, ⟨ "b", 45, 1, false, "", "tearoff/disk", 8⟩] [(0, 1), (1, 1)] := ⟨fun w => by kernel_rfl⟩
instance ti144 : TI Tryd.prog 144 (.struct #[⟨ "i", 3, 0, false, "", "tearoff/disk", 0⟩, ⟨ "b", 45, 1, false, "", "tearoff/disk", 8⟩]) (.agg #[.int .i64 0, .slice none 0 0]) 2 32 := ⟨Tryd.underlying144, by kernel_rfl⟩
instance ti145 : TI Tryd.prog 145 (.func #[23, 45, 3] #[45] false) (.nilFunc) 1 8 := ⟨Tryd.underlying145, by kernel_rfl⟩
instance ti146 : TI Tryd.prog 146 (.struct #[⟨ "At", 3, 0, false, "", "", 0⟩, ⟨ "B", 45, 1, false, "", "", 8⟩]) (.agg #[.int .i64 0, .slice none 0 0]) 2 32 := ⟨Tryd.underlying146, by kernel_rfl⟩
instance si146 : SI Tryd.prog #[⟨ "At", 3, 0, false, "", "", 0⟩, ⟨ "B", 45, 1, false, "", "", 8⟩] [(0, 1), (1, 1)] := ⟨fun w => by kernel_rfl⟩
instance ti147 : TI Tryd.prog 147 (.struct #[⟨ "At", 3, 0, false, "", "", 0⟩, ⟨ "B", 45, 1, false, "", "", 8⟩]) (.agg #[.int .i64 0, .slice none 0 0]) 2 32 := ⟨Tryd.underlying147, by kernel_rfl⟩
instance ti148 : TI Tryd.prog 148 (.func #[3] #[45, 28] false) (.nilFunc) 1 8 := ⟨Tryd.underlying148, by kernel_rfl⟩
instance ti149 : TI Tryd.prog 149 (.tuple #[23, 45]) (.tuple #[.int .u64 0, .slice none 0 0]) 1 0 := ⟨Tryd.underlying149, by kernel_rfl⟩
instance ti150 : TI Tryd.prog 150 (.func #[45, 3] #[23, 45] false) (.nilFunc) 1 8 := ⟨Tryd.underlying150, by kernel_rfl⟩
instance ti151 : TI Tryd.prog 151 (.func #[] #[5] false) (.nilFunc) 1 8 := ⟨Tryd.underlying151, by kernel_rfl⟩
instance ti152 : TI Tryd.prog 152 (.func #[45] #[151] false) (.nilFunc) 1 8 := ⟨Tryd.underlying152, by kernel_rfl⟩
instance ti153 : TI Tryd.prog 153 (.func #[45, 45, 5] #[45] false) (.nilFunc) 1 8 := ⟨Tryd.underlying153, by kernel_rfl⟩
instance ti154 : TI Tryd.prog 154 (.func #[66] #[66] false) (.nilFunc) 1 8 := ⟨Tryd.underlying154, by kernel_rfl⟩
instance ti155 : TI Tryd.prog 155 (.func #[81, 45] #[4] false) (.nilFunc) 1 8 := ⟨Tryd.underlying155, by kernel_rfl⟩
instance ti156 : TI Tryd.prog 156 (.func #[44] #[45] true) (.nilFunc) 1 8 := ⟨Tryd.underlying156, by kernel_rfl⟩
instance ti157 : TI Tryd.prog 157 (.func #[23, 3] #[45] false) (.nilFunc) 1 8 := ⟨Tryd.underlying157, by kernel_rfl⟩
instance ti158 : TI Tryd.prog 158 (.func #[3] #[23] false) (.nilFunc) 1 8 := ⟨Tryd.underlying158, by kernel_rfl⟩
instance ti159 : TI Tryd.prog 159 (.struct #[⟨ "Counted", 81, 0, true, "", "", 0⟩, ⟨ "head", 45, 5, false, "", "tearoff/reserve", 40⟩, ⟨ "s", 36, 6, false, "", "tearoff/reserve", 64⟩]) (.agg #[.int .u64 0, .int .u64 0, .int .u64 0, .int .u64 0, .bool false, .slice none 0 0, .pointer none]) 7 72 := ⟨Tryd.underlying159, by kernel_rfl⟩
instance si159 : SI Tryd.prog #[⟨ "Counted", 81, 0, true, "", "", 0⟩, ⟨ "head", 45, 5, false, "", "tearoff/reserve", 40⟩, ⟨ "s", 36, 6, false, "", "tearoff/reserve", 64⟩] [(0, 5), (5, 1), (6, 1)] := ⟨fun w => by kernel_rfl⟩
instance ti160 : TI Tryd.prog 160 (.struct #[⟨ "Counted", 81, 0, true, "", "", 0⟩, ⟨ "head", 45, 5, false, "", "tearoff/reserve", 40⟩, ⟨ "s", 36, 6, false, "", "tearoff/reserve", 64⟩]) (.agg #[.int .u64 0, .int .u64 0, .int .u64 0, .int .u64 0, .bool false, .slice none 0 0, .pointer none]) 7 72 := ⟨Tryd.underlying160, by kernel_rfl⟩
instance ti161 : TI Tryd.prog 161 (.func #[81] #[28] false) (.nilFunc) 1 8 := ⟨Tryd.underlying161, by kernel_rfl⟩
instance ti162 : TI Tryd.prog 162 (.slice 165) (.slice none 0 0) 1 24 := ⟨Tryd.underlying162, by kernel_rfl⟩
instance ti163 : TI Tryd.prog 163 (.func #[45, 45] #[162] false) (.nilFunc) 1 8 := ⟨Tryd.underlying163, by kernel_rfl⟩
instance ti164 : TI Tryd.prog 164 (.struct #[⟨ "key", 45, 0, false, "", "tearoff/hss", 0⟩, ⟨ "sig", 45, 1, false, "", "tearoff/hss", 24⟩, ⟨ "next", 45, 2, false, "", "tearoff/hss", 48⟩]) (.agg #[.slice none 0 0, .slice none 0 0, .slice none 0 0]) 3 72 := ⟨Tryd.underlying164, by kernel_rfl⟩
instance si164 : SI Tryd.prog #[⟨ "key", 45, 0, false, "", "tearoff/hss", 0⟩, ⟨ "sig", 45, 1, false, "", "tearoff/hss", 24⟩, ⟨ "next", 45, 2, false, "", "tearoff/hss", 48⟩] [(0, 1), (1, 1), (2, 1)] := ⟨fun w => by kernel_rfl⟩
instance ti165 : TI Tryd.prog 165 (.struct #[⟨ "key", 45, 0, false, "", "tearoff/hss", 0⟩, ⟨ "sig", 45, 1, false, "", "tearoff/hss", 24⟩, ⟨ "next", 45, 2, false, "", "tearoff/hss", 48⟩]) (.agg #[.slice none 0 0, .slice none 0 0, .slice none 0 0]) 3 72 := ⟨Tryd.underlying165, by kernel_rfl⟩
instance ti166 : TI Tryd.prog 166 (.tuple #[126, 28]) (.tuple #[.slice none 0 0, .int .i64 0]) 1 0 := ⟨Tryd.underlying166, by kernel_rfl⟩
instance ti167 : TI Tryd.prog 167 (.func #[168] #[126, 28] false) (.nilFunc) 1 8 := ⟨Tryd.underlying167, by kernel_rfl⟩
instance ti168 : TI Tryd.prog 168 (.func #[] #[126] false) (.nilFunc) 1 8 := ⟨Tryd.underlying168, by kernel_rfl⟩
instance ti169 : TI Tryd.prog 169 (.tuple #[119, 28]) (.tuple #[.agg #[.int .u32 0, .int .i64 0, .int .i64 0, .int .i64 0, .int .i64 0, .int .i64 0], .int .i64 0]) 1 0 := ⟨Tryd.underlying169, by kernel_rfl⟩
instance ti170 : TI Tryd.prog 170 (.func #[31] #[119, 28] false) (.nilFunc) 1 8 := ⟨Tryd.underlying170, by kernel_rfl⟩
instance ti171 : TI Tryd.prog 171 (.tuple #[121, 28]) (.tuple #[.agg #[.int .u32 0, .int .i64 0, .int .i64 0, .int .i64 0], .int .i64 0]) 1 0 := ⟨Tryd.underlying171, by kernel_rfl⟩
instance ti172 : TI Tryd.prog 172 (.func #[31] #[121, 28] false) (.nilFunc) 1 8 := ⟨Tryd.underlying172, by kernel_rfl⟩
instance ti173 : TI Tryd.prog 173 (.struct #[⟨ "e", 28, 0, false, "", "tearoff/hss", 0⟩]) (.agg #[.int .i64 0]) 1 8 := ⟨Tryd.underlying173, by kernel_rfl⟩
instance si173 : SI Tryd.prog #[⟨ "e", 28, 0, false, "", "tearoff/hss", 0⟩] [(0, 1)] := ⟨fun w => by kernel_rfl⟩
instance ti174 : TI Tryd.prog 174 (.struct #[⟨ "e", 28, 0, false, "", "tearoff/hss", 0⟩]) (.agg #[.int .i64 0]) 1 8 := ⟨Tryd.underlying174, by kernel_rfl⟩
instance ti175 : TI Tryd.prog 175 (.func #[4, 28] #[] false) (.nilFunc) 1 8 := ⟨Tryd.underlying175, by kernel_rfl⟩
instance ti176 : TI Tryd.prog 176 (.func #[115] #[4] false) (.nilFunc) 1 8 := ⟨Tryd.underlying176, by kernel_rfl⟩
instance ti177 : TI Tryd.prog 177 (.func #[213] #[] false) (.nilFunc) 1 8 := ⟨Tryd.underlying177, by kernel_rfl⟩
instance ti178 : TI Tryd.prog 178 (.func #[213] #[] false) (.nilFunc) 1 8 := ⟨Tryd.underlying178, by kernel_rfl⟩
instance ti179 : TI Tryd.prog 179 (.func #[126] #[178] false) (.nilFunc) 1 8 := ⟨Tryd.underlying179, by kernel_rfl⟩
instance ti180 : TI Tryd.prog 180 (.func #[27] #[] false) (.nilFunc) 1 8 := ⟨Tryd.underlying180, by kernel_rfl⟩
instance ti181 : TI Tryd.prog 181 (.struct #[⟨ "e", 28, 0, false, "", "tearoff/slots", 0⟩]) (.agg #[.int .i64 0]) 1 8 := ⟨Tryd.underlying181, by kernel_rfl⟩
instance si181 : SI Tryd.prog #[⟨ "e", 28, 0, false, "", "tearoff/slots", 0⟩] [(0, 1)] := ⟨fun w => by kernel_rfl⟩
instance ti182 : TI Tryd.prog 182 (.struct #[⟨ "e", 28, 0, false, "", "tearoff/slots", 0⟩]) (.agg #[.int .i64 0]) 1 8 := ⟨Tryd.underlying182, by kernel_rfl⟩
instance ti183 : TI Tryd.prog 183 (.func #[3] #[45] false) (.nilFunc) 1 8 := ⟨Tryd.underlying183, by kernel_rfl⟩
instance ti184 : TI Tryd.prog 184 (.func #[45] #[136] false) (.nilFunc) 1 8 := ⟨Tryd.underlying184, by kernel_rfl⟩
instance ti185 : TI Tryd.prog 185 (.func #[45] #[4] false) (.nilFunc) 1 8 := ⟨Tryd.underlying185, by kernel_rfl⟩
instance ti186 : TI Tryd.prog 186 (.struct #[⟨ "e", 28, 0, false, "", "tearoff/disk", 0⟩]) (.agg #[.int .i64 0]) 1 8 := ⟨Tryd.underlying186, by kernel_rfl⟩
instance si186 : SI Tryd.prog #[⟨ "e", 28, 0, false, "", "tearoff/disk", 0⟩] [(0, 1)] := ⟨fun w => by kernel_rfl⟩
instance ti187 : TI Tryd.prog 187 (.struct #[⟨ "e", 28, 0, false, "", "tearoff/disk", 0⟩]) (.agg #[.int .i64 0]) 1 8 := ⟨Tryd.underlying187, by kernel_rfl⟩
instance ti188 : TI Tryd.prog 188 (.func #[64, 3] #[4] false) (.nilFunc) 1 8 := ⟨Tryd.underlying188, by kernel_rfl⟩
instance ti189 : TI Tryd.prog 189 (.func #[64] #[64] false) (.nilFunc) 1 8 := ⟨Tryd.underlying189, by kernel_rfl⟩
instance ti190 : TI Tryd.prog 190 (.func #[44, 45] #[45] false) (.nilFunc) 1 8 := ⟨Tryd.underlying190, by kernel_rfl⟩
instance ti191 : TI Tryd.prog 191 (.int .u64) (.int .u64 0) 1 8 := ⟨Tryd.underlying191, by kernel_rfl⟩
instance ti192 : TI Tryd.prog 192 (.func #[193] #[3] false) (.nilFunc) 1 8 := ⟨Tryd.underlying192, by kernel_rfl⟩
instance ti193 : TI Tryd.prog 193 (.pointer 45) (.pointer none) 1 8 := ⟨Tryd.underlying193, by kernel_rfl⟩
instance ti194 : TI Tryd.prog 194 (.func #[193] #[45] false) (.nilFunc) 1 8 := ⟨Tryd.underlying194, by kernel_rfl⟩
instance ti195 : TI Tryd.prog 195 (.func #[45, 193] #[45] false) (.nilFunc) 1 8 := ⟨Tryd.underlying195, by kernel_rfl⟩
instance ti196 : TI Tryd.prog 196 (.func #[3] #[3, 3] false) (.nilFunc) 1 8 := ⟨Tryd.underlying196, by kernel_rfl⟩
instance ti197 : TI Tryd.prog 197 (.tuple #[3, 3, 3]) (.tuple #[.int .i64 0, .int .i64 0, .int .i64 0]) 1 0 := ⟨Tryd.underlying197, by kernel_rfl⟩
instance ti198 : TI Tryd.prog 198 (.func #[3, 3] #[3, 3, 3] false) (.nilFunc) 1 8 := ⟨Tryd.underlying198, by kernel_rfl⟩
instance ti199 : TI Tryd.prog 199 (.struct #[⟨ "o", 119, 0, false, "", "tearoff/lms", 0⟩, ⟨ "t", 121, 6, false, "", "tearoff/lms", 48⟩]) (.agg #[.int .u32 0, .int .i64 0, .int .i64 0, .int .i64 0, .int .i64 0, .int .i64 0, .int .u32 0, .int .i64 0, .int .i64 0, .int .i64 0]) 10 80 := ⟨Tryd.underlying199, by kernel_rfl⟩
instance si199 : SI Tryd.prog #[⟨ "o", 119, 0, false, "", "tearoff/lms", 0⟩, ⟨ "t", 121, 6, false, "", "tearoff/lms", 48⟩] [(0, 6), (6, 4)] := ⟨fun w => by kernel_rfl⟩
instance ti200 : TI Tryd.prog 200 (.struct #[⟨ "o", 119, 0, false, "", "tearoff/lms", 0⟩, ⟨ "t", 121, 6, false, "", "tearoff/lms", 48⟩]) (.agg #[.int .u32 0, .int .i64 0, .int .i64 0, .int .i64 0, .int .i64 0, .int .i64 0, .int .u32 0, .int .i64 0, .int .i64 0, .int .i64 0]) 10 80 := ⟨Tryd.underlying200, by kernel_rfl⟩
instance ti201 : TI Tryd.prog 201 (.tuple #[200, 28]) (.tuple #[.agg #[.int .u32 0, .int .i64 0, .int .i64 0, .int .i64 0, .int .i64 0, .int .i64 0, .int .u32 0, .int .i64 0, .int .i64 0, .int .i64 0], .int .i64 0]) 1 0 := ⟨Tryd.underlying201, by kernel_rfl⟩
instance ti202 : TI Tryd.prog 202 (.func #[204] #[200, 28] false) (.nilFunc) 1 8 := ⟨Tryd.underlying202, by kernel_rfl⟩
instance ti203 : TI Tryd.prog 203 (.func #[115] #[200] false) (.nilFunc) 1 8 := ⟨Tryd.underlying203, by kernel_rfl⟩
instance ti204 : TI Tryd.prog 204 (.func #[] #[200] false) (.nilFunc) 1 8 := ⟨Tryd.underlying204, by kernel_rfl⟩
instance ti205 : TI Tryd.prog 205 (.func #[212] #[121, 28] false) (.nilFunc) 1 8 := ⟨Tryd.underlying205, by kernel_rfl⟩
instance ti206 : TI Tryd.prog 206 (.struct #[⟨ "kind", 3, 0, false, "", "tearoff/sets", 0⟩, ⟨ "n", 3, 1, false, "", "tearoff/sets", 8⟩]) (.agg #[.int .i64 0, .int .i64 0]) 2 16 := ⟨Tryd.underlying206, by kernel_rfl⟩
instance si206 : SI Tryd.prog #[⟨ "kind", 3, 0, false, "", "tearoff/sets", 0⟩, ⟨ "n", 3, 1, false, "", "tearoff/sets", 8⟩] [(0, 1), (1, 1)] := ⟨fun w => by kernel_rfl⟩
instance ti207 : TI Tryd.prog 207 (.struct #[⟨ "kind", 3, 0, false, "", "tearoff/sets", 0⟩, ⟨ "n", 3, 1, false, "", "tearoff/sets", 8⟩]) (.agg #[.int .i64 0, .int .i64 0]) 2 16 := ⟨Tryd.underlying207, by kernel_rfl⟩
instance ti208 : TI Tryd.prog 208 (.tuple #[207, 3]) (.tuple #[.agg #[.int .i64 0, .int .i64 0], .int .i64 0]) 1 0 := ⟨Tryd.underlying208, by kernel_rfl⟩
instance ti209 : TI Tryd.prog 209 (.func #[31, 31, 3] #[207, 3] false) (.nilFunc) 1 8 := ⟨Tryd.underlying209, by kernel_rfl⟩
instance ti210 : TI Tryd.prog 210 (.array 4 3) (.agg #[.int .i64 0, .int .i64 0, .int .i64 0, .int .i64 0]) 4 32 := ⟨Tryd.underlying210, by kernel_rfl⟩
instance ti211 : TI Tryd.prog 211 (.array 5 3) (.agg #[.int .i64 0, .int .i64 0, .int .i64 0, .int .i64 0, .int .i64 0]) 5 40 := ⟨Tryd.underlying211, by kernel_rfl⟩
instance ti212 : TI Tryd.prog 212 (.func #[] #[121] false) (.nilFunc) 1 8 := ⟨Tryd.underlying212, by kernel_rfl⟩
instance ti213 : TI Tryd.prog 213 (.func #[3, 121] #[4] false) (.nilFunc) 1 8 := ⟨Tryd.underlying213, by kernel_rfl⟩
instance ti214 : TI Tryd.prog 214 (.pointer 236) (.pointer none) 1 8 := ⟨Tryd.underlying214, by kernel_rfl⟩
instance ti215 : TI Tryd.prog 215 (.func #[] #[214] false) (.nilFunc) 1 8 := ⟨Tryd.underlying215, by kernel_rfl⟩
instance ti216 : TI Tryd.prog 216 (.func #[45] #[] false) (.nilFunc) 1 8 := ⟨Tryd.underlying216, by kernel_rfl⟩
instance ti217 : TI Tryd.prog 217 (.func #[45, 218] #[4] false) (.nilFunc) 1 8 := ⟨Tryd.underlying217, by kernel_rfl⟩
instance ti218 : TI Tryd.prog 218 (.func #[5] #[4] false) (.nilFunc) 1 8 := ⟨Tryd.underlying218, by kernel_rfl⟩
instance ti219 : TI Tryd.prog 219 (.func #[64, 3] #[3] false) (.nilFunc) 1 8 := ⟨Tryd.underlying219, by kernel_rfl⟩
instance ti220 : TI Tryd.prog 220 (.array 8 31) (.agg #[.int .u32 0, .int .u32 0, .int .u32 0, .int .u32 0, .int .u32 0, .int .u32 0, .int .u32 0, .int .u32 0]) 8 32 := ⟨Tryd.underlying220, by kernel_rfl⟩
instance ti221 : TI Tryd.prog 221 (.func #[220, 45] #[220] false) (.nilFunc) 1 8 := ⟨Tryd.underlying221, by kernel_rfl⟩
instance ti222 : TI Tryd.prog 222 (.func #[45, 3] #[45] false) (.nilFunc) 1 8 := ⟨Tryd.underlying222, by kernel_rfl⟩
instance ti223 : TI Tryd.prog 223 (.func #[193, 3] #[45] false) (.nilFunc) 1 8 := ⟨Tryd.underlying223, by kernel_rfl⟩
instance ti224 : TI Tryd.prog 224 (.func #[115] #[3, 3] false) (.nilFunc) 1 8 := ⟨Tryd.underlying224, by kernel_rfl⟩
instance ti225 : TI Tryd.prog 225 (.tuple #[115, 28]) (.tuple #[.agg #[.int .u32 0, .int .u32 0], .int .i64 0]) 1 0 := ⟨Tryd.underlying225, by kernel_rfl⟩
instance ti226 : TI Tryd.prog 226 (.func #[45] #[115, 28] false) (.nilFunc) 1 8 := ⟨Tryd.underlying226, by kernel_rfl⟩
instance ti227 : TI Tryd.prog 227 (.tuple #[45, 45, 28]) (.tuple #[.slice none 0 0, .slice none 0 0, .int .i64 0]) 1 0 := ⟨Tryd.underlying227, by kernel_rfl⟩
instance ti228 : TI Tryd.prog 228 (.func #[115, 45] #[45, 45, 28] false) (.nilFunc) 1 8 := ⟨Tryd.underlying228, by kernel_rfl⟩
instance ti229 : TI Tryd.prog 229 (.struct #[⟨ "e", 28, 0, false, "", "tearoff/lms", 0⟩]) (.agg #[.int .i64 0]) 1 8 := ⟨Tryd.underlying229, by kernel_rfl⟩
instance si229 : SI Tryd.prog #[⟨ "e", 28, 0, false, "", "tearoff/lms", 0⟩] [(0, 1)] := ⟨fun w => by kernel_rfl⟩
instance ti230 : TI Tryd.prog 230 (.struct #[⟨ "e", 28, 0, false, "", "tearoff/lms", 0⟩]) (.agg #[.int .i64 0]) 1 8 := ⟨Tryd.underlying230, by kernel_rfl⟩
instance ti231 : TI Tryd.prog 231 (.func #[119, 121] #[4] false) (.nilFunc) 1 8 := ⟨Tryd.underlying231, by kernel_rfl⟩
instance ti232 : TI Tryd.prog 232 (.struct #[]) (.agg #[]) 0 0 := ⟨Tryd.underlying232, by kernel_rfl⟩
instance si232 : SI Tryd.prog #[] [] := ⟨fun w => by kernel_rfl⟩
instance ti233 : TI Tryd.prog 233 (.struct #[]) (.agg #[]) 0 0 := ⟨Tryd.underlying233, by kernel_rfl⟩
instance ti234 : TI Tryd.prog 234 (.array 4 207) (.agg #[.int .i64 0, .int .i64 0, .int .i64 0, .int .i64 0, .int .i64 0, .int .i64 0, .int .i64 0, .int .i64 0]) 8 64 := ⟨Tryd.underlying234, by kernel_rfl⟩
instance ti235 : TI Tryd.prog 235 (.struct #[⟨ "state", 220, 0, false, "", "tearoff/sha2", 0⟩, ⟨ "rest", 45, 8, false, "", "tearoff/sha2", 32⟩, ⟨ "n", 23, 9, false, "", "tearoff/sha2", 56⟩]) (.agg #[.int .u32 0, .int .u32 0, .int .u32 0, .int .u32 0, .int .u32 0, .int .u32 0, .int .u32 0, .int .u32 0, .slice none 0 0, .int .u64 0]) 10 64 := ⟨Tryd.underlying235, by kernel_rfl⟩
instance si235 : SI Tryd.prog #[⟨ "state", 220, 0, false, "", "tearoff/sha2", 0⟩, ⟨ "rest", 45, 8, false, "", "tearoff/sha2", 32⟩, ⟨ "n", 23, 9, false, "", "tearoff/sha2", 56⟩] [(0, 8), (8, 1), (9, 1)] := ⟨fun w => by kernel_rfl⟩
instance ti236 : TI Tryd.prog 236 (.struct #[⟨ "state", 220, 0, false, "", "tearoff/sha2", 0⟩, ⟨ "rest", 45, 8, false, "", "tearoff/sha2", 32⟩, ⟨ "n", 23, 9, false, "", "tearoff/sha2", 56⟩]) (.agg #[.int .u32 0, .int .u32 0, .int .u32 0, .int .u32 0, .int .u32 0, .int .u32 0, .int .u32 0, .int .u32 0, .slice none 0 0, .int .u64 0]) 10 64 := ⟨Tryd.underlying236, by kernel_rfl⟩
instance ti237 : TI Tryd.prog 237 (.array 64 5) (.agg #[.int .u8 0, .int .u8 0, .int .u8 0, .int .u8 0, .int .u8 0, .int .u8 0, .int .u8 0, .int .u8 0, .int .u8 0, .int .u8 0, .int .u8 0, .int .u8 0, .int .u8 0, .int .u8 0, .int .u8 0, .int .u8 0, .int .u8 0, .int .u8 0, .int .u8 0, .int .u8 0, .int .u8 0, .int .u8 0, .int .u8 0, .int .u8 0, .int .u8 0, .int .u8 0, .int .u8 0, .int .u8 0, .int .u8 0, .int .u8 0, .int .u8 0, .int .u8 0, .int .u8 0, .int .u8 0, .int .u8 0, .int .u8 0, .int .u8 0, .int .u8 0, .int .u8 0, .int .u8 0, .int .u8 0, .int .u8 0, .int .u8 0, .int .u8 0, .int .u8 0, .int .u8 0, .int .u8 0, .int .u8 0, .int .u8 0, .int .u8 0, .int .u8 0, .int .u8 0, .int .u8 0, .int .u8 0, .int .u8 0, .int .u8 0, .int .u8 0, .int .u8 0, .int .u8 0, .int .u8 0, .int .u8 0, .int .u8 0, .int .u8 0, .int .u8 0]) 64 64 := ⟨Tryd.underlying237, by kernel_rfl⟩
instance ti238 : TI Tryd.prog 238 (.func #[220, 237] #[220] false) (.nilFunc) 1 8 := ⟨Tryd.underlying238, by kernel_rfl⟩
instance ti239 : TI Tryd.prog 239 (.func #[256] #[] false) (.nilFunc) 1 8 := ⟨Tryd.underlying239, by kernel_rfl⟩
instance ti240 : TI Tryd.prog 240 (.func #[256] #[] false) (.nilFunc) 1 8 := ⟨Tryd.underlying240, by kernel_rfl⟩
instance ti241 : TI Tryd.prog 241 (.func #[132] #[240] false) (.nilFunc) 1 8 := ⟨Tryd.underlying241, by kernel_rfl⟩
instance ti242 : TI Tryd.prog 242 (.func #[45, 218] #[3] false) (.nilFunc) 1 8 := ⟨Tryd.underlying242, by kernel_rfl⟩
instance ti243 : TI Tryd.prog 243 (.array 64 31) (.agg #[.int .u32 0, .int .u32 0, .int .u32 0, .int .u32 0, .int .u32 0, .int .u32 0, .int .u32 0, .int .u32 0, .int .u32 0, .int .u32 0, .int .u32 0, .int .u32 0, .int .u32 0, .int .u32 0, .int .u32 0, .int .u32 0, .int .u32 0, .int .u32 0, .int .u32 0, .int .u32 0, .int .u32 0, .int .u32 0, .int .u32 0, .int .u32 0, .int .u32 0, .int .u32 0, .int .u32 0, .int .u32 0, .int .u32 0, .int .u32 0, .int .u32 0, .int .u32 0, .int .u32 0, .int .u32 0, .int .u32 0, .int .u32 0, .int .u32 0, .int .u32 0, .int .u32 0, .int .u32 0, .int .u32 0, .int .u32 0, .int .u32 0, .int .u32 0, .int .u32 0, .int .u32 0, .int .u32 0, .int .u32 0, .int .u32 0, .int .u32 0, .int .u32 0, .int .u32 0, .int .u32 0, .int .u32 0, .int .u32 0, .int .u32 0, .int .u32 0, .int .u32 0, .int .u32 0, .int .u32 0, .int .u32 0, .int .u32 0, .int .u32 0, .int .u32 0]) 64 256 := ⟨Tryd.underlying243, by kernel_rfl⟩
instance ti244 : TI Tryd.prog 244 (.func #[] #[243] false) (.nilFunc) 1 8 := ⟨Tryd.underlying244, by kernel_rfl⟩
instance ti245 : TI Tryd.prog 245 (.func #[31, 31] #[31] false) (.nilFunc) 1 8 := ⟨Tryd.underlying245, by kernel_rfl⟩
instance ti246 : TI Tryd.prog 246 (.func #[] #[3] false) (.nilFunc) 1 8 := ⟨Tryd.underlying246, by kernel_rfl⟩
instance ti247 : TI Tryd.prog 247 (.func #[248] #[115, 28] false) (.nilFunc) 1 8 := ⟨Tryd.underlying247, by kernel_rfl⟩
instance ti248 : TI Tryd.prog 248 (.func #[] #[115] false) (.nilFunc) 1 8 := ⟨Tryd.underlying248, by kernel_rfl⟩
instance ti249 : TI Tryd.prog 249 (.tuple #[96, 28]) (.tuple #[.agg #[.slice none 0 0, .slice none 0 0], .int .i64 0]) 1 0 := ⟨Tryd.underlying249, by kernel_rfl⟩
instance ti250 : TI Tryd.prog 250 (.func #[251] #[96, 28] false) (.nilFunc) 1 8 := ⟨Tryd.underlying250, by kernel_rfl⟩
instance ti251 : TI Tryd.prog 251 (.func #[] #[96] false) (.nilFunc) 1 8 := ⟨Tryd.underlying251, by kernel_rfl⟩
instance ti252 : TI Tryd.prog 252 (.func #[253] #[119, 28] false) (.nilFunc) 1 8 := ⟨Tryd.underlying252, by kernel_rfl⟩
instance ti253 : TI Tryd.prog 253 (.func #[] #[119] false) (.nilFunc) 1 8 := ⟨Tryd.underlying253, by kernel_rfl⟩
instance ti254 : TI Tryd.prog 254 (.func #[237] #[243] false) (.nilFunc) 1 8 := ⟨Tryd.underlying254, by kernel_rfl⟩
instance ti255 : TI Tryd.prog 255 (.func #[31, 3] #[31] false) (.nilFunc) 1 8 := ⟨Tryd.underlying255, by kernel_rfl⟩
instance ti256 : TI Tryd.prog 256 (.func #[3, 144] #[4] false) (.nilFunc) 1 8 := ⟨Tryd.underlying256, by kernel_rfl⟩
instance ti257 : TI Tryd.prog 257 (.func #[119] #[3] false) (.nilFunc) 1 8 := ⟨Tryd.underlying257, by kernel_rfl⟩
instance ti258 : TI Tryd.prog 258 (.func #[191] #[3] false) (.nilFunc) 1 8 := ⟨Tryd.underlying258, by kernel_rfl⟩
instance ti259 : TI Tryd.prog 259 (.func #[] #[210] false) (.nilFunc) 1 8 := ⟨Tryd.underlying259, by kernel_rfl⟩
instance ti260 : TI Tryd.prog 260 (.func #[31] #[3] false) (.nilFunc) 1 8 := ⟨Tryd.underlying260, by kernel_rfl⟩
instance ti261 : TI Tryd.prog 261 (.func #[23] #[3] false) (.nilFunc) 1 8 := ⟨Tryd.underlying261, by kernel_rfl⟩
instance ti262 : TI Tryd.prog 262 (.func #[] #[9] false) (.nilFunc) 1 8 := ⟨Tryd.underlying262, by kernel_rfl⟩
instance ti263 : TI Tryd.prog 263 (.struct #[⟨ "_interface", 17, 0, false, "", "runtime", 0⟩, ⟨ "concrete", 17, 1, false, "", "runtime", 8⟩, ⟨ "asserted", 17, 2, false, "", "runtime", 16⟩, ⟨ "missingMethod", 9, 3, false, "", "runtime", 24⟩]) (.agg #[.pointer none, .pointer none, .pointer none, .string ⟨#[]⟩]) 4 40 := ⟨Tryd.underlying263, by kernel_rfl⟩
instance si263 : SI Tryd.prog #[⟨ "_interface", 17, 0, false, "", "runtime", 0⟩, ⟨ "concrete", 17, 1, false, "", "runtime", 8⟩, ⟨ "asserted", 17, 2, false, "", "runtime", 16⟩, ⟨ "missingMethod", 9, 3, false, "", "runtime", 24⟩] [(0, 1), (1, 1), (2, 1), (3, 1)] := ⟨fun w => by kernel_rfl⟩
instance ti264 : TI Tryd.prog 264 (.struct #[⟨ "_interface", 17, 0, false, "", "runtime", 0⟩, ⟨ "concrete", 17, 1, false, "", "runtime", 8⟩, ⟨ "asserted", 17, 2, false, "", "runtime", 16⟩, ⟨ "missingMethod", 9, 3, false, "", "runtime", 24⟩]) (.agg #[.pointer none, .pointer none, .pointer none, .string ⟨#[]⟩]) 4 40 := ⟨Tryd.underlying264, by kernel_rfl⟩
instance ti265 : TI Tryd.prog 265 (.array 0 16) (.agg #[]) 0 0 := ⟨Tryd.underlying265, by kernel_rfl⟩
instance ti266 : TI Tryd.prog 266 (.struct #[⟨ "_", 265, 0, false, "", "runtime", 0⟩]) (.agg #[]) 0 0 := ⟨Tryd.underlying266, by kernel_rfl⟩
instance si266 : SI Tryd.prog #[⟨ "_", 265, 0, false, "", "runtime", 0⟩] [(0, 0)] := ⟨fun w => by kernel_rfl⟩
instance ti267 : TI Tryd.prog 267 (.struct #[⟨ "_", 265, 0, false, "", "runtime", 0⟩]) (.agg #[]) 0 0 := ⟨Tryd.underlying267, by kernel_rfl⟩
instance ti268 : TI Tryd.prog 268 (.int .u8) (.int .u8 0) 1 1 := ⟨Tryd.underlying268, by kernel_rfl⟩
instance ti269 : TI Tryd.prog 269 (.int .u8) (.int .u8 0) 1 1 := ⟨Tryd.underlying269, by kernel_rfl⟩
instance ti270 : TI Tryd.prog 270 (.func #[276, 276] #[4] false) (.nilFunc) 1 8 := ⟨Tryd.underlying270, by kernel_rfl⟩
instance ti271 : TI Tryd.prog 271 (.pointer 5) (.pointer none) 1 8 := ⟨Tryd.underlying271, by kernel_rfl⟩
instance ti272 : TI Tryd.prog 272 (.int .i32) (.int .i32 0) 1 4 := ⟨Tryd.underlying272, by kernel_rfl⟩
instance ti273 : TI Tryd.prog 273 (.int .i32) (.int .i32 0) 1 4 := ⟨Tryd.underlying273, by kernel_rfl⟩
instance ti274 : TI Tryd.prog 274 (.struct #[⟨ "Size_", 12, 0, false, "", "", 0⟩, ⟨ "PtrBytes", 12, 1, false, "", "", 8⟩, ⟨ "Hash", 31, 2, false, "", "", 16⟩, ⟨ "TFlag", 268, 3, false, "", "", 20⟩, ⟨ "Align_", 5, 4, false, "", "", 21⟩, ⟨ "FieldAlign_", 5, 5, false, "", "", 22⟩, ⟨ "Kind_", 269, 6, false, "", "", 23⟩, ⟨ "Equal", 270, 7, false, "", "", 24⟩, ⟨ "GCData", 271, 8, false, "", "", 32⟩, ⟨ "Str", 272, 9, false, "", "", 40⟩, ⟨ "PtrToThis", 273, 10, false, "", "", 44⟩]) (.agg #[.int .u64 0, .int .u64 0, .int .u32 0, .int .u8 0, .int .u8 0, .int .u8 0, .int .u8 0, .nilFunc, .pointer none, .int .i32 0, .int .i32 0]) 11 48 := ⟨Tryd.underlying274, by kernel_rfl⟩
instance si274 : SI Tryd.prog #[⟨ "Size_", 12, 0, false, "", "", 0⟩, ⟨ "PtrBytes", 12, 1, false, "", "", 8⟩, ⟨ "Hash", 31, 2, false, "", "", 16⟩, ⟨ "TFlag", 268, 3, false, "", "", 20⟩, ⟨ "Align_", 5, 4, false, "", "", 21⟩, ⟨ "FieldAlign_", 5, 5, false, "", "", 22⟩, ⟨ "Kind_", 269, 6, false, "", "", 23⟩, ⟨ "Equal", 270, 7, false, "", "", 24⟩, ⟨ "GCData", 271, 8, false, "", "", 32⟩, ⟨ "Str", 272, 9, false, "", "", 40⟩, ⟨ "PtrToThis", 273, 10, false, "", "", 44⟩] [(0, 1), (1, 1), (2, 1), (3, 1), (4, 1), (5, 1), (6, 1), (7, 1), (8, 1), (9, 1), (10, 1)] := ⟨fun w => by kernel_rfl⟩
instance ti275 : TI Tryd.prog 275 (.struct #[⟨ "Size_", 12, 0, false, "", "", 0⟩, ⟨ "PtrBytes", 12, 1, false, "", "", 8⟩, ⟨ "Hash", 31, 2, false, "", "", 16⟩, ⟨ "TFlag", 268, 3, false, "", "", 20⟩, ⟨ "Align_", 5, 4, false, "", "", 21⟩, ⟨ "FieldAlign_", 5, 5, false, "", "", 22⟩, ⟨ "Kind_", 269, 6, false, "", "", 23⟩, ⟨ "Equal", 270, 7, false, "", "", 24⟩, ⟨ "GCData", 271, 8, false, "", "", 32⟩, ⟨ "Str", 272, 9, false, "", "", 40⟩, ⟨ "PtrToThis", 273, 10, false, "", "", 44⟩]) (.agg #[.int .u64 0, .int .u64 0, .int .u32 0, .int .u8 0, .int .u8 0, .int .u8 0, .int .u8 0, .nilFunc, .pointer none, .int .i32 0, .int .i32 0]) 11 48 := ⟨Tryd.underlying275, by kernel_rfl⟩
instance ti276 : TI Tryd.prog 276 (.unsafePointer) (.pointer none) 1 8 := ⟨Tryd.underlying276, by kernel_rfl⟩
instance fo7_0 : FO Tryd.prog 7 0 0 1 false := ⟨_, _, _, _, _, Tryd.underlying7, rfl, ti2, rfl, rfl, by decide⟩
instance fo7_1 : FO Tryd.prog 7 1 1 1 false := ⟨_, _, _, _, _, Tryd.underlying7, rfl, ti3, rfl, rfl, by decide⟩
instance fo7_2 : FO Tryd.prog 7 2 2 1 false := ⟨_, _, _, _, _, Tryd.underlying7, rfl, ti4, rfl, rfl, by decide⟩
instance fo7_3 : FO Tryd.prog 7 3 3 1 false := ⟨_, _, _, _, _, Tryd.underlying7, rfl, ti6, rfl, rfl, by decide⟩
instance fo8_0 : FO Tryd.prog 8 0 0 1 false := ⟨_, _, _, _, _, Tryd.underlying8, rfl, ti2, rfl, rfl, by decide⟩
instance fo8_1 : FO Tryd.prog 8 1 1 1 false := ⟨_, _, _, _, _, Tryd.underlying8, rfl, ti3, rfl, rfl, by decide⟩
instance fo8_2 : FO Tryd.prog 8 2 2 1 false := ⟨_, _, _, _, _, Tryd.underlying8, rfl, ti4, rfl, rfl, by decide⟩
instance fo8_3 : FO Tryd.prog 8 3 3 1 false := ⟨_, _, _, _, _, Tryd.underlying8, rfl, ti6, rfl, rfl, by decide⟩
instance fo13_0 : FO Tryd.prog 13 0 0 1 false := ⟨_, _, _, _, _, Tryd.underlying13, rfl, ti9, rfl, rfl, by decide⟩
instance fo13_1 : FO Tryd.prog 13 1 1 1 false := ⟨_, _, _, _, _, Tryd.underlying13, rfl, ti12, rfl, rfl, by decide⟩
instance fo14_0 : FO Tryd.prog 14 0 0 1 false := ⟨_, _, _, _, _, Tryd.underlying14, rfl, ti9, rfl, rfl, by decide⟩
instance fo14_1 : FO Tryd.prog 14 1 1 1 false := ⟨_, _, _, _, _, Tryd.underlying14, rfl, ti12, rfl, rfl, by decide⟩
instance fo18_0 : FO Tryd.prog 18 0 0 1 false := ⟨_, _, _, _, _, Tryd.underlying18, rfl, ti17, rfl, rfl, by decide⟩
instance fo19_0 : FO Tryd.prog 19 0 0 1 false := ⟨_, _, _, _, _, Tryd.underlying19, rfl, ti17, rfl, rfl, by decide⟩
instance fo65_0 : FO Tryd.prog 65 0 0 1 false := ⟨_, _, _, _, _, Tryd.underlying65, rfl, ti64, rfl, rfl, by decide⟩
instance fo65_1 : FO Tryd.prog 65 1 1 1 false := ⟨_, _, _, _, _, Tryd.underlying65, rfl, ti3, rfl, rfl, by decide⟩
instance fo66_0 : FO Tryd.prog 66 0 0 1 false := ⟨_, _, _, _, _, Tryd.underlying66, rfl, ti64, rfl, rfl, by decide⟩
instance fo66_1 : FO Tryd.prog 66 1 1 1 false := ⟨_, _, _, _, _, Tryd.underlying66, rfl, ti3, rfl, rfl, by decide⟩
instance fo67_0 : FO Tryd.prog 67 0 0 1 false := ⟨_, _, _, _, _, Tryd.underlying67, rfl, ti3, rfl, rfl, by decide⟩
instance fo67_1 : FO Tryd.prog 67 1 1 1 false := ⟨_, _, _, _, _, Tryd.underlying67, rfl, ti3, rfl, rfl, by decide⟩
instance fo67_2 : FO Tryd.prog 67 2 2 1 false := ⟨_, _, _, _, _, Tryd.underlying67, rfl, ti45, rfl, rfl, by decide⟩
instance fo67_3 : FO Tryd.prog 67 3 3 1 false := ⟨_, _, _, _, _, Tryd.underlying67, rfl, ti45, rfl, rfl, by decide⟩
instance fo67_4 : FO Tryd.prog 67 4 4 2 true := ⟨_, _, _, _, _, Tryd.underlying67, rfl, ti66, rfl, rfl, by decide⟩
instance fo68_0 : FO Tryd.prog 68 0 0 1 false := ⟨_, _, _, _, _, Tryd.underlying68, rfl, ti3, rfl, rfl, by decide⟩
instance fo68_1 : FO Tryd.prog 68 1 1 1 false := ⟨_, _, _, _, _, Tryd.underlying68, rfl, ti3, rfl, rfl, by decide⟩
instance fo68_2 : FO Tryd.prog 68 2 2 1 false := ⟨_, _, _, _, _, Tryd.underlying68, rfl, ti45, rfl, rfl, by decide⟩
instance fo68_3 : FO Tryd.prog 68 3 3 1 false := ⟨_, _, _, _, _, Tryd.underlying68, rfl, ti45, rfl, rfl, by decide⟩
instance fo68_4 : FO Tryd.prog 68 4 4 2 true := ⟨_, _, _, _, _, Tryd.underlying68, rfl, ti66, rfl, rfl, by decide⟩
instance fo73_0 : FO Tryd.prog 73 0 0 1 false := ⟨_, _, _, _, _, Tryd.underlying73, rfl, ti72, rfl, rfl, by decide⟩
instance fo73_1 : FO Tryd.prog 73 1 1 1 false := ⟨_, _, _, _, _, Tryd.underlying73, rfl, ti44, rfl, rfl, by decide⟩
instance fo73_2 : FO Tryd.prog 73 2 2 1 false := ⟨_, _, _, _, _, Tryd.underlying73, rfl, ti64, rfl, rfl, by decide⟩
instance fo73_3 : FO Tryd.prog 73 3 3 1 false := ⟨_, _, _, _, _, Tryd.underlying73, rfl, ti44, rfl, rfl, by decide⟩
instance fo73_4 : FO Tryd.prog 73 4 4 2 true := ⟨_, _, _, _, _, Tryd.underlying73, rfl, ti66, rfl, rfl, by decide⟩
instance fo73_5 : FO Tryd.prog 73 5 6 1 false := ⟨_, _, _, _, _, Tryd.underlying73, rfl, ti3, rfl, rfl, by decide⟩
instance fo73_6 : FO Tryd.prog 73 6 7 1 false := ⟨_, _, _, _, _, Tryd.underlying73, rfl, ti4, rfl, rfl, by decide⟩
instance fo74_0 : FO Tryd.prog 74 0 0 1 false := ⟨_, _, _, _, _, Tryd.underlying74, rfl, ti72, rfl, rfl, by decide⟩
instance fo74_1 : FO Tryd.prog 74 1 1 1 false := ⟨_, _, _, _, _, Tryd.underlying74, rfl, ti44, rfl, rfl, by decide⟩
instance fo74_2 : FO Tryd.prog 74 2 2 1 false := ⟨_, _, _, _, _, Tryd.underlying74, rfl, ti64, rfl, rfl, by decide⟩
instance fo74_3 : FO Tryd.prog 74 3 3 1 false := ⟨_, _, _, _, _, Tryd.underlying74, rfl, ti44, rfl, rfl, by decide⟩
instance fo74_4 : FO Tryd.prog 74 4 4 2 true := ⟨_, _, _, _, _, Tryd.underlying74, rfl, ti66, rfl, rfl, by decide⟩
instance fo74_5 : FO Tryd.prog 74 5 6 1 false := ⟨_, _, _, _, _, Tryd.underlying74, rfl, ti3, rfl, rfl, by decide⟩
instance fo74_6 : FO Tryd.prog 74 6 7 1 false := ⟨_, _, _, _, _, Tryd.underlying74, rfl, ti4, rfl, rfl, by decide⟩
instance fo76_0 : FO Tryd.prog 76 0 0 1 false := ⟨_, _, _, _, _, Tryd.underlying76, rfl, ti40, rfl, rfl, by decide⟩
instance fo76_1 : FO Tryd.prog 76 1 1 1 false := ⟨_, _, _, _, _, Tryd.underlying76, rfl, ti3, rfl, rfl, by decide⟩
instance fo76_2 : FO Tryd.prog 76 2 2 1 false := ⟨_, _, _, _, _, Tryd.underlying76, rfl, ti3, rfl, rfl, by decide⟩
instance fo76_3 : FO Tryd.prog 76 3 3 1 false := ⟨_, _, _, _, _, Tryd.underlying76, rfl, ti3, rfl, rfl, by decide⟩
instance fo76_4 : FO Tryd.prog 76 4 4 1 false := ⟨_, _, _, _, _, Tryd.underlying76, rfl, ti23, rfl, rfl, by decide⟩
instance fo76_5 : FO Tryd.prog 76 5 5 1 false := ⟨_, _, _, _, _, Tryd.underlying76, rfl, ti45, rfl, rfl, by decide⟩
instance fo77_0 : FO Tryd.prog 77 0 0 1 false := ⟨_, _, _, _, _, Tryd.underlying77, rfl, ti40, rfl, rfl, by decide⟩
instance fo77_1 : FO Tryd.prog 77 1 1 1 false := ⟨_, _, _, _, _, Tryd.underlying77, rfl, ti3, rfl, rfl, by decide⟩
instance fo77_2 : FO Tryd.prog 77 2 2 1 false := ⟨_, _, _, _, _, Tryd.underlying77, rfl, ti3, rfl, rfl, by decide⟩
instance fo77_3 : FO Tryd.prog 77 3 3 1 false := ⟨_, _, _, _, _, Tryd.underlying77, rfl, ti3, rfl, rfl, by decide⟩
instance fo77_4 : FO Tryd.prog 77 4 4 1 false := ⟨_, _, _, _, _, Tryd.underlying77, rfl, ti23, rfl, rfl, by decide⟩
instance fo77_5 : FO Tryd.prog 77 5 5 1 false := ⟨_, _, _, _, _, Tryd.underlying77, rfl, ti45, rfl, rfl, by decide⟩
instance fo80_0 : FO Tryd.prog 80 0 0 1 false := ⟨_, _, _, _, _, Tryd.underlying80, rfl, ti23, rfl, rfl, by decide⟩
instance fo80_1 : FO Tryd.prog 80 1 1 1 false := ⟨_, _, _, _, _, Tryd.underlying80, rfl, ti23, rfl, rfl, by decide⟩
instance fo80_2 : FO Tryd.prog 80 2 2 1 false := ⟨_, _, _, _, _, Tryd.underlying80, rfl, ti23, rfl, rfl, by decide⟩
instance fo80_3 : FO Tryd.prog 80 3 3 1 false := ⟨_, _, _, _, _, Tryd.underlying80, rfl, ti23, rfl, rfl, by decide⟩
instance fo80_4 : FO Tryd.prog 80 4 4 1 false := ⟨_, _, _, _, _, Tryd.underlying80, rfl, ti4, rfl, rfl, by decide⟩
instance fo81_0 : FO Tryd.prog 81 0 0 1 false := ⟨_, _, _, _, _, Tryd.underlying81, rfl, ti23, rfl, rfl, by decide⟩
instance fo81_1 : FO Tryd.prog 81 1 1 1 false := ⟨_, _, _, _, _, Tryd.underlying81, rfl, ti23, rfl, rfl, by decide⟩
instance fo81_2 : FO Tryd.prog 81 2 2 1 false := ⟨_, _, _, _, _, Tryd.underlying81, rfl, ti23, rfl, rfl, by decide⟩
instance fo81_3 : FO Tryd.prog 81 3 3 1 false := ⟨_, _, _, _, _, Tryd.underlying81, rfl, ti23, rfl, rfl, by decide⟩
instance fo81_4 : FO Tryd.prog 81 4 4 1 false := ⟨_, _, _, _, _, Tryd.underlying81, rfl, ti4, rfl, rfl, by decide⟩
instance fo100_0 : FO Tryd.prog 100 0 0 1 false := ⟨_, _, _, _, _, Tryd.underlying100, rfl, ti23, rfl, rfl, by decide⟩
instance fo100_1 : FO Tryd.prog 100 1 1 1 false := ⟨_, _, _, _, _, Tryd.underlying100, rfl, ti23, rfl, rfl, by decide⟩
instance fo100_2 : FO Tryd.prog 100 2 2 1 false := ⟨_, _, _, _, _, Tryd.underlying100, rfl, ti45, rfl, rfl, by decide⟩
instance fo101_0 : FO Tryd.prog 101 0 0 1 false := ⟨_, _, _, _, _, Tryd.underlying101, rfl, ti23, rfl, rfl, by decide⟩
instance fo101_1 : FO Tryd.prog 101 1 1 1 false := ⟨_, _, _, _, _, Tryd.underlying101, rfl, ti23, rfl, rfl, by decide⟩
instance fo101_2 : FO Tryd.prog 101 2 2 1 false := ⟨_, _, _, _, _, Tryd.underlying101, rfl, ti45, rfl, rfl, by decide⟩
instance fo106_0 : FO Tryd.prog 106 0 0 1 false := ⟨_, _, _, _, _, Tryd.underlying106, rfl, ti4, rfl, rfl, by decide⟩
instance fo106_1 : FO Tryd.prog 106 1 1 5 true := ⟨_, _, _, _, _, Tryd.underlying106, rfl, ti81, rfl, rfl, by decide⟩
instance fo106_2 : FO Tryd.prog 106 2 6 1 false := ⟨_, _, _, _, _, Tryd.underlying106, rfl, ti45, rfl, rfl, by decide⟩
instance fo106_3 : FO Tryd.prog 106 3 7 1 false := ⟨_, _, _, _, _, Tryd.underlying106, rfl, ti62, rfl, rfl, by decide⟩
instance fo107_0 : FO Tryd.prog 107 0 0 1 false := ⟨_, _, _, _, _, Tryd.underlying107, rfl, ti4, rfl, rfl, by decide⟩
instance fo107_1 : FO Tryd.prog 107 1 1 5 true := ⟨_, _, _, _, _, Tryd.underlying107, rfl, ti81, rfl, rfl, by decide⟩
instance fo107_2 : FO Tryd.prog 107 2 6 1 false := ⟨_, _, _, _, _, Tryd.underlying107, rfl, ti45, rfl, rfl, by decide⟩
instance fo107_3 : FO Tryd.prog 107 3 7 1 false := ⟨_, _, _, _, _, Tryd.underlying107, rfl, ti62, rfl, rfl, by decide⟩
instance fo108_0 : FO Tryd.prog 108 0 0 1 false := ⟨_, _, _, _, _, Tryd.underlying108, rfl, ti3, rfl, rfl, by decide⟩
instance fo108_1 : FO Tryd.prog 108 1 1 1 false := ⟨_, _, _, _, _, Tryd.underlying108, rfl, ti45, rfl, rfl, by decide⟩
instance fo108_2 : FO Tryd.prog 108 2 2 2 true := ⟨_, _, _, _, _, Tryd.underlying108, rfl, ti66, rfl, rfl, by decide⟩
instance fo109_0 : FO Tryd.prog 109 0 0 1 false := ⟨_, _, _, _, _, Tryd.underlying109, rfl, ti3, rfl, rfl, by decide⟩
instance fo109_1 : FO Tryd.prog 109 1 1 1 false := ⟨_, _, _, _, _, Tryd.underlying109, rfl, ti45, rfl, rfl, by decide⟩
instance fo109_2 : FO Tryd.prog 109 2 2 2 true := ⟨_, _, _, _, _, Tryd.underlying109, rfl, ti66, rfl, rfl, by decide⟩
instance fo114_0 : FO Tryd.prog 114 0 0 1 false := ⟨_, _, _, _, _, Tryd.underlying114, rfl, ti31, rfl, rfl, by decide⟩
instance fo114_1 : FO Tryd.prog 114 1 1 1 false := ⟨_, _, _, _, _, Tryd.underlying114, rfl, ti31, rfl, rfl, by decide⟩
instance fo115_0 : FO Tryd.prog 115 0 0 1 false := ⟨_, _, _, _, _, Tryd.underlying115, rfl, ti31, rfl, rfl, by decide⟩
instance fo115_1 : FO Tryd.prog 115 1 1 1 false := ⟨_, _, _, _, _, Tryd.underlying115, rfl, ti31, rfl, rfl, by decide⟩
instance fo118_0 : FO Tryd.prog 118 0 0 1 false := ⟨_, _, _, _, _, Tryd.underlying118, rfl, ti31, rfl, rfl, by decide⟩
instance fo118_1 : FO Tryd.prog 118 1 1 1 false := ⟨_, _, _, _, _, Tryd.underlying118, rfl, ti3, rfl, rfl, by decide⟩
instance fo118_2 : FO Tryd.prog 118 2 2 1 false := ⟨_, _, _, _, _, Tryd.underlying118, rfl, ti3, rfl, rfl, by decide⟩
instance fo118_3 : FO Tryd.prog 118 3 3 1 false := ⟨_, _, _, _, _, Tryd.underlying118, rfl, ti3, rfl, rfl, by decide⟩
instance fo118_4 : FO Tryd.prog 118 4 4 1 false := ⟨_, _, _, _, _, Tryd.underlying118, rfl, ti3, rfl, rfl, by decide⟩
instance fo118_5 : FO Tryd.prog 118 5 5 1 false := ⟨_, _, _, _, _, Tryd.underlying118, rfl, ti3, rfl, rfl, by decide⟩
instance fo119_0 : FO Tryd.prog 119 0 0 1 false := ⟨_, _, _, _, _, Tryd.underlying119, rfl, ti31, rfl, rfl, by decide⟩
instance fo119_1 : FO Tryd.prog 119 1 1 1 false := ⟨_, _, _, _, _, Tryd.underlying119, rfl, ti3, rfl, rfl, by decide⟩
instance fo119_2 : FO Tryd.prog 119 2 2 1 false := ⟨_, _, _, _, _, Tryd.underlying119, rfl, ti3, rfl, rfl, by decide⟩
instance fo119_3 : FO Tryd.prog 119 3 3 1 false := ⟨_, _, _, _, _, Tryd.underlying119, rfl, ti3, rfl, rfl, by decide⟩
instance fo119_4 : FO Tryd.prog 119 4 4 1 false := ⟨_, _, _, _, _, Tryd.underlying119, rfl, ti3, rfl, rfl, by decide⟩
instance fo119_5 : FO Tryd.prog 119 5 5 1 false := ⟨_, _, _, _, _, Tryd.underlying119, rfl, ti3, rfl, rfl, by decide⟩
instance fo120_0 : FO Tryd.prog 120 0 0 1 false := ⟨_, _, _, _, _, Tryd.underlying120, rfl, ti31, rfl, rfl, by decide⟩
instance fo120_1 : FO Tryd.prog 120 1 1 1 false := ⟨_, _, _, _, _, Tryd.underlying120, rfl, ti3, rfl, rfl, by decide⟩
instance fo120_2 : FO Tryd.prog 120 2 2 1 false := ⟨_, _, _, _, _, Tryd.underlying120, rfl, ti3, rfl, rfl, by decide⟩
instance fo120_3 : FO Tryd.prog 120 3 3 1 false := ⟨_, _, _, _, _, Tryd.underlying120, rfl, ti3, rfl, rfl, by decide⟩
instance fo121_0 : FO Tryd.prog 121 0 0 1 false := ⟨_, _, _, _, _, Tryd.underlying121, rfl, ti31, rfl, rfl, by decide⟩
instance fo121_1 : FO Tryd.prog 121 1 1 1 false := ⟨_, _, _, _, _, Tryd.underlying121, rfl, ti3, rfl, rfl, by decide⟩
instance fo121_2 : FO Tryd.prog 121 2 2 1 false := ⟨_, _, _, _, _, Tryd.underlying121, rfl, ti3, rfl, rfl, by decide⟩
instance fo121_3 : FO Tryd.prog 121 3 3 1 false := ⟨_, _, _, _, _, Tryd.underlying121, rfl, ti3, rfl, rfl, by decide⟩
instance fo133_0 : FO Tryd.prog 133 0 0 1 false := ⟨_, _, _, _, _, Tryd.underlying133, rfl, ti44, rfl, rfl, by decide⟩
instance fo133_1 : FO Tryd.prog 133 1 1 1 false := ⟨_, _, _, _, _, Tryd.underlying133, rfl, ti132, rfl, rfl, by decide⟩
instance fo133_2 : FO Tryd.prog 133 2 2 2 true := ⟨_, _, _, _, _, Tryd.underlying133, rfl, ti66, rfl, rfl, by decide⟩
instance fo133_3 : FO Tryd.prog 133 3 4 1 false := ⟨_, _, _, _, _, Tryd.underlying133, rfl, ti3, rfl, rfl, by decide⟩
instance fo133_4 : FO Tryd.prog 133 4 5 1 false := ⟨_, _, _, _, _, Tryd.underlying133, rfl, ti4, rfl, rfl, by decide⟩
instance fo134_0 : FO Tryd.prog 134 0 0 1 false := ⟨_, _, _, _, _, Tryd.underlying134, rfl, ti44, rfl, rfl, by decide⟩
instance fo134_1 : FO Tryd.prog 134 1 1 1 false := ⟨_, _, _, _, _, Tryd.underlying134, rfl, ti132, rfl, rfl, by decide⟩
instance fo134_2 : FO Tryd.prog 134 2 2 2 true := ⟨_, _, _, _, _, Tryd.underlying134, rfl, ti66, rfl, rfl, by decide⟩
instance fo134_3 : FO Tryd.prog 134 3 4 1 false := ⟨_, _, _, _, _, Tryd.underlying134, rfl, ti3, rfl, rfl, by decide⟩
instance fo134_4 : FO Tryd.prog 134 4 5 1 false := ⟨_, _, _, _, _, Tryd.underlying134, rfl, ti4, rfl, rfl, by decide⟩
instance fo135_0 : FO Tryd.prog 135 0 0 1 false := ⟨_, _, _, _, _, Tryd.underlying135, rfl, ti23, rfl, rfl, by decide⟩
instance fo135_1 : FO Tryd.prog 135 1 1 1 false := ⟨_, _, _, _, _, Tryd.underlying135, rfl, ti45, rfl, rfl, by decide⟩
instance fo136_0 : FO Tryd.prog 136 0 0 1 false := ⟨_, _, _, _, _, Tryd.underlying136, rfl, ti23, rfl, rfl, by decide⟩
instance fo136_1 : FO Tryd.prog 136 1 1 1 false := ⟨_, _, _, _, _, Tryd.underlying136, rfl, ti45, rfl, rfl, by decide⟩
instance fo137_0 : FO Tryd.prog 137 0 0 1 false := ⟨_, _, _, _, _, Tryd.underlying137, rfl, ti33, rfl, rfl, by decide⟩
instance fo137_1 : FO Tryd.prog 137 1 1 1 false := ⟨_, _, _, _, _, Tryd.underlying137, rfl, ti3, rfl, rfl, by decide⟩
instance fo137_2 : FO Tryd.prog 137 2 2 1 false := ⟨_, _, _, _, _, Tryd.underlying137, rfl, ti3, rfl, rfl, by decide⟩
instance fo137_3 : FO Tryd.prog 137 3 3 1 false := ⟨_, _, _, _, _, Tryd.underlying137, rfl, ti3, rfl, rfl, by decide⟩
instance fo137_4 : FO Tryd.prog 137 4 4 2 true := ⟨_, _, _, _, _, Tryd.underlying137, rfl, ti136, rfl, rfl, by decide⟩
instance fo138_0 : FO Tryd.prog 138 0 0 1 false := ⟨_, _, _, _, _, Tryd.underlying138, rfl, ti33, rfl, rfl, by decide⟩
instance fo138_1 : FO Tryd.prog 138 1 1 1 false := ⟨_, _, _, _, _, Tryd.underlying138, rfl, ti3, rfl, rfl, by decide⟩
instance fo138_2 : FO Tryd.prog 138 2 2 1 false := ⟨_, _, _, _, _, Tryd.underlying138, rfl, ti3, rfl, rfl, by decide⟩
instance fo138_3 : FO Tryd.prog 138 3 3 1 false := ⟨_, _, _, _, _, Tryd.underlying138, rfl, ti3, rfl, rfl, by decide⟩
instance fo138_4 : FO Tryd.prog 138 4 4 2 true := ⟨_, _, _, _, _, Tryd.underlying138, rfl, ti136, rfl, rfl, by decide⟩
instance fo143_0 : FO Tryd.prog 143 0 0 1 false := ⟨_, _, _, _, _, Tryd.underlying143, rfl, ti3, rfl, rfl, by decide⟩
instance fo143_1 : FO Tryd.prog 143 1 1 1 false := ⟨_, _, _, _, _, Tryd.underlying143, rfl, ti45, rfl, rfl, by decide⟩
instance fo144_0 : FO Tryd.prog 144 0 0 1 false := ⟨_, _, _, _, _, Tryd.underlying144, rfl, ti3, rfl, rfl, by decide⟩
instance fo144_1 : FO Tryd.prog 144 1 1 1 false := ⟨_, _, _, _, _, Tryd.underlying144, rfl, ti45, rfl, rfl, by decide⟩
instance fo146_0 : FO Tryd.prog 146 0 0 1 false := ⟨_, _, _, _, _, Tryd.underlying146, rfl, ti3, rfl, rfl, by decide⟩
instance fo146_1 : FO Tryd.prog 146 1 1 1 false := ⟨_, _, _, _, _, Tryd.underlying146, rfl, ti45, rfl, rfl, by decide⟩
instance fo147_0 : FO Tryd.prog 147 0 0 1 false := ⟨_, _, _, _, _, Tryd.underlying147, rfl, ti3, rfl, rfl, by decide⟩
instance fo147_1 : FO Tryd.prog 147 1 1 1 false := ⟨_, _, _, _, _, Tryd.underlying147, rfl, ti45, rfl, rfl, by decide⟩
instance fo159_0 : FO Tryd.prog 159 0 0 5 true := ⟨_, _, _, _, _, Tryd.underlying159, rfl, ti81, rfl, rfl, by decide⟩
instance fo159_1 : FO Tryd.prog 159 1 5 1 false := ⟨_, _, _, _, _, Tryd.underlying159, rfl, ti45, rfl, rfl, by decide⟩
instance fo159_2 : FO Tryd.prog 159 2 6 1 false := ⟨_, _, _, _, _, Tryd.underlying159, rfl, ti36, rfl, rfl, by decide⟩
instance fo160_0 : FO Tryd.prog 160 0 0 5 true := ⟨_, _, _, _, _, Tryd.underlying160, rfl, ti81, rfl, rfl, by decide⟩
instance fo160_1 : FO Tryd.prog 160 1 5 1 false := ⟨_, _, _, _, _, Tryd.underlying160, rfl, ti45, rfl, rfl, by decide⟩
instance fo160_2 : FO Tryd.prog 160 2 6 1 false := ⟨_, _, _, _, _, Tryd.underlying160, rfl, ti36, rfl, rfl, by decide⟩
instance fo164_0 : FO Tryd.prog 164 0 0 1 false := ⟨_, _, _, _, _, Tryd.underlying164, rfl, ti45, rfl, rfl, by decide⟩
instance fo164_1 : FO Tryd.prog 164 1 1 1 false := ⟨_, _, _, _, _, Tryd.underlying164, rfl, ti45, rfl, rfl, by decide⟩
instance fo164_2 : FO Tryd.prog 164 2 2 1 false := ⟨_, _, _, _, _, Tryd.underlying164, rfl, ti45, rfl, rfl, by decide⟩
instance fo165_0 : FO Tryd.prog 165 0 0 1 false := ⟨_, _, _, _, _, Tryd.underlying165, rfl, ti45, rfl, rfl, by decide⟩
instance fo165_1 : FO Tryd.prog 165 1 1 1 false := ⟨_, _, _, _, _, Tryd.underlying165, rfl, ti45, rfl, rfl, by decide⟩
instance fo165_2 : FO Tryd.prog 165 2 2 1 false := ⟨_, _, _, _, _, Tryd.underlying165, rfl, ti45, rfl, rfl, by decide⟩
instance fo173_0 : FO Tryd.prog 173 0 0 1 false := ⟨_, _, _, _, _, Tryd.underlying173, rfl, ti28, rfl, rfl, by decide⟩
instance fo174_0 : FO Tryd.prog 174 0 0 1 false := ⟨_, _, _, _, _, Tryd.underlying174, rfl, ti28, rfl, rfl, by decide⟩
instance fo181_0 : FO Tryd.prog 181 0 0 1 false := ⟨_, _, _, _, _, Tryd.underlying181, rfl, ti28, rfl, rfl, by decide⟩
instance fo182_0 : FO Tryd.prog 182 0 0 1 false := ⟨_, _, _, _, _, Tryd.underlying182, rfl, ti28, rfl, rfl, by decide⟩
instance fo186_0 : FO Tryd.prog 186 0 0 1 false := ⟨_, _, _, _, _, Tryd.underlying186, rfl, ti28, rfl, rfl, by decide⟩
instance fo187_0 : FO Tryd.prog 187 0 0 1 false := ⟨_, _, _, _, _, Tryd.underlying187, rfl, ti28, rfl, rfl, by decide⟩
instance fo199_0 : FO Tryd.prog 199 0 0 6 true := ⟨_, _, _, _, _, Tryd.underlying199, rfl, ti119, rfl, rfl, by decide⟩
instance fo199_1 : FO Tryd.prog 199 1 6 4 true := ⟨_, _, _, _, _, Tryd.underlying199, rfl, ti121, rfl, rfl, by decide⟩
instance fo200_0 : FO Tryd.prog 200 0 0 6 true := ⟨_, _, _, _, _, Tryd.underlying200, rfl, ti119, rfl, rfl, by decide⟩
instance fo200_1 : FO Tryd.prog 200 1 6 4 true := ⟨_, _, _, _, _, Tryd.underlying200, rfl, ti121, rfl, rfl, by decide⟩
instance fo206_0 : FO Tryd.prog 206 0 0 1 false := ⟨_, _, _, _, _, Tryd.underlying206, rfl, ti3, rfl, rfl, by decide⟩
instance fo206_1 : FO Tryd.prog 206 1 1 1 false := ⟨_, _, _, _, _, Tryd.underlying206, rfl, ti3, rfl, rfl, by decide⟩
instance fo207_0 : FO Tryd.prog 207 0 0 1 false := ⟨_, _, _, _, _, Tryd.underlying207, rfl, ti3, rfl, rfl, by decide⟩
instance fo207_1 : FO Tryd.prog 207 1 1 1 false := ⟨_, _, _, _, _, Tryd.underlying207, rfl, ti3, rfl, rfl, by decide⟩
instance fo229_0 : FO Tryd.prog 229 0 0 1 false := ⟨_, _, _, _, _, Tryd.underlying229, rfl, ti28, rfl, rfl, by decide⟩
instance fo230_0 : FO Tryd.prog 230 0 0 1 false := ⟨_, _, _, _, _, Tryd.underlying230, rfl, ti28, rfl, rfl, by decide⟩
instance fo235_0 : FO Tryd.prog 235 0 0 8 true := ⟨_, _, _, _, _, Tryd.underlying235, rfl, ti220, rfl, rfl, by decide⟩
instance fo235_1 : FO Tryd.prog 235 1 8 1 false := ⟨_, _, _, _, _, Tryd.underlying235, rfl, ti45, rfl, rfl, by decide⟩
instance fo235_2 : FO Tryd.prog 235 2 9 1 false := ⟨_, _, _, _, _, Tryd.underlying235, rfl, ti23, rfl, rfl, by decide⟩
instance fo236_0 : FO Tryd.prog 236 0 0 8 true := ⟨_, _, _, _, _, Tryd.underlying236, rfl, ti220, rfl, rfl, by decide⟩
instance fo236_1 : FO Tryd.prog 236 1 8 1 false := ⟨_, _, _, _, _, Tryd.underlying236, rfl, ti45, rfl, rfl, by decide⟩
instance fo236_2 : FO Tryd.prog 236 2 9 1 false := ⟨_, _, _, _, _, Tryd.underlying236, rfl, ti23, rfl, rfl, by decide⟩
instance fo263_0 : FO Tryd.prog 263 0 0 1 false := ⟨_, _, _, _, _, Tryd.underlying263, rfl, ti17, rfl, rfl, by decide⟩
instance fo263_1 : FO Tryd.prog 263 1 1 1 false := ⟨_, _, _, _, _, Tryd.underlying263, rfl, ti17, rfl, rfl, by decide⟩
instance fo263_2 : FO Tryd.prog 263 2 2 1 false := ⟨_, _, _, _, _, Tryd.underlying263, rfl, ti17, rfl, rfl, by decide⟩
instance fo263_3 : FO Tryd.prog 263 3 3 1 false := ⟨_, _, _, _, _, Tryd.underlying263, rfl, ti9, rfl, rfl, by decide⟩
instance fo264_0 : FO Tryd.prog 264 0 0 1 false := ⟨_, _, _, _, _, Tryd.underlying264, rfl, ti17, rfl, rfl, by decide⟩
instance fo264_1 : FO Tryd.prog 264 1 1 1 false := ⟨_, _, _, _, _, Tryd.underlying264, rfl, ti17, rfl, rfl, by decide⟩
instance fo264_2 : FO Tryd.prog 264 2 2 1 false := ⟨_, _, _, _, _, Tryd.underlying264, rfl, ti17, rfl, rfl, by decide⟩
instance fo264_3 : FO Tryd.prog 264 3 3 1 false := ⟨_, _, _, _, _, Tryd.underlying264, rfl, ti9, rfl, rfl, by decide⟩
instance fo274_0 : FO Tryd.prog 274 0 0 1 false := ⟨_, _, _, _, _, Tryd.underlying274, rfl, ti12, rfl, rfl, by decide⟩
instance fo274_1 : FO Tryd.prog 274 1 1 1 false := ⟨_, _, _, _, _, Tryd.underlying274, rfl, ti12, rfl, rfl, by decide⟩
instance fo274_2 : FO Tryd.prog 274 2 2 1 false := ⟨_, _, _, _, _, Tryd.underlying274, rfl, ti31, rfl, rfl, by decide⟩
instance fo274_3 : FO Tryd.prog 274 3 3 1 false := ⟨_, _, _, _, _, Tryd.underlying274, rfl, ti268, rfl, rfl, by decide⟩
instance fo274_4 : FO Tryd.prog 274 4 4 1 false := ⟨_, _, _, _, _, Tryd.underlying274, rfl, ti5, rfl, rfl, by decide⟩
instance fo274_5 : FO Tryd.prog 274 5 5 1 false := ⟨_, _, _, _, _, Tryd.underlying274, rfl, ti5, rfl, rfl, by decide⟩
instance fo274_6 : FO Tryd.prog 274 6 6 1 false := ⟨_, _, _, _, _, Tryd.underlying274, rfl, ti269, rfl, rfl, by decide⟩
instance fo274_7 : FO Tryd.prog 274 7 7 1 false := ⟨_, _, _, _, _, Tryd.underlying274, rfl, ti270, rfl, rfl, by decide⟩
instance fo274_8 : FO Tryd.prog 274 8 8 1 false := ⟨_, _, _, _, _, Tryd.underlying274, rfl, ti271, rfl, rfl, by decide⟩
instance fo274_9 : FO Tryd.prog 274 9 9 1 false := ⟨_, _, _, _, _, Tryd.underlying274, rfl, ti272, rfl, rfl, by decide⟩
instance fo274_10 : FO Tryd.prog 274 10 10 1 false := ⟨_, _, _, _, _, Tryd.underlying274, rfl, ti273, rfl, rfl, by decide⟩
instance fo275_0 : FO Tryd.prog 275 0 0 1 false := ⟨_, _, _, _, _, Tryd.underlying275, rfl, ti12, rfl, rfl, by decide⟩
instance fo275_1 : FO Tryd.prog 275 1 1 1 false := ⟨_, _, _, _, _, Tryd.underlying275, rfl, ti12, rfl, rfl, by decide⟩
instance fo275_2 : FO Tryd.prog 275 2 2 1 false := ⟨_, _, _, _, _, Tryd.underlying275, rfl, ti31, rfl, rfl, by decide⟩
instance fo275_3 : FO Tryd.prog 275 3 3 1 false := ⟨_, _, _, _, _, Tryd.underlying275, rfl, ti268, rfl, rfl, by decide⟩
instance fo275_4 : FO Tryd.prog 275 4 4 1 false := ⟨_, _, _, _, _, Tryd.underlying275, rfl, ti5, rfl, rfl, by decide⟩
instance fo275_5 : FO Tryd.prog 275 5 5 1 false := ⟨_, _, _, _, _, Tryd.underlying275, rfl, ti5, rfl, rfl, by decide⟩
instance fo275_6 : FO Tryd.prog 275 6 6 1 false := ⟨_, _, _, _, _, Tryd.underlying275, rfl, ti269, rfl, rfl, by decide⟩
instance fo275_7 : FO Tryd.prog 275 7 7 1 false := ⟨_, _, _, _, _, Tryd.underlying275, rfl, ti270, rfl, rfl, by decide⟩
instance fo275_8 : FO Tryd.prog 275 8 8 1 false := ⟨_, _, _, _, _, Tryd.underlying275, rfl, ti271, rfl, rfl, by decide⟩
instance fo275_9 : FO Tryd.prog 275 9 9 1 false := ⟨_, _, _, _, _, Tryd.underlying275, rfl, ti272, rfl, rfl, by decide⟩
instance fo275_10 : FO Tryd.prog 275 10 10 1 false := ⟨_, _, _, _, _, Tryd.underlying275, rfl, ti273, rfl, rfl, by decide⟩
theorem eqs7 {a0 b0 : Int} {a1 b1 : Int} {a2 b2 : Bool} {a3 b3 : Int} : EqS Tryd.prog 7 [.int .i64 a0, .int .i64 a1, .bool a2, .int .u8 a3] [.int .i64 b0, .int .i64 b1, .bool b2, .int .u8 b3] (a0 = b0 ∧ (a1 = b1 ∧ (a2 = b2 ∧ (a3 = b3 ∧ True)))) := eqS_of _ Tryd.underlying7 (by kernel_rfl) (by kernel_rfl) (eqF_int (by decide) rfl rfl (eqF_int (by decide) rfl rfl (eqF_bool (by decide) rfl rfl (eqF_int (by decide) rfl rfl eqF_nil))))
theorem eqs8 {a0 b0 : Int} {a1 b1 : Int} {a2 b2 : Bool} {a3 b3 : Int} : EqS Tryd.prog 8 [.int .i64 a0, .int .i64 a1, .bool a2, .int .u8 a3] [.int .i64 b0, .int .i64 b1, .bool b2, .int .u8 b3] (a0 = b0 ∧ (a1 = b1 ∧ (a2 = b2 ∧ (a3 = b3 ∧ True)))) := eqS_of _ Tryd.underlying8 (by kernel_rfl) (by kernel_rfl) (eqF_int (by decide) rfl rfl (eqF_int (by decide) rfl rfl (eqF_bool (by decide) rfl rfl (eqF_int (by decide) rfl rfl eqF_nil))))
theorem eqs80 {a0 b0 : Int} {a1 b1 : Int} {a2 b2 : Int} {a3 b3 : Int} {a4 b4 : Bool} : EqS Tryd.prog 80 [.int .u64 a0, .int .u64 a1, .int .u64 a2, .int .u64 a3, .bool a4] [.int .u64 b0, .int .u64 b1, .int .u64 b2, .int .u64 b3, .bool b4] (a0 = b0 ∧ (a1 = b1 ∧ (a2 = b2 ∧ (a3 = b3 ∧ (a4 = b4 ∧ True))))) := eqS_of _ Tryd.underlying80 (by kernel_rfl) (by kernel_rfl) (eqF_int (by decide) rfl rfl (eqF_int (by decide) rfl rfl (eqF_int (by decide) rfl rfl (eqF_int (by decide) rfl rfl (eqF_bool (by decide) rfl rfl eqF_nil)))))
theorem eqs81 {a0 b0 : Int} {a1 b1 : Int} {a2 b2 : Int} {a3 b3 : Int} {a4 b4 : Bool} : EqS Tryd.prog 81 [.int .u64 a0, .int .u64 a1, .int .u64 a2, .int .u64 a3, .bool a4] [.int .u64 b0, .int .u64 b1, .int .u64 b2, .int .u64 b3, .bool b4] (a0 = b0 ∧ (a1 = b1 ∧ (a2 = b2 ∧ (a3 = b3 ∧ (a4 = b4 ∧ True))))) := eqS_of _ Tryd.underlying81 (by kernel_rfl) (by kernel_rfl) (eqF_int (by decide) rfl rfl (eqF_int (by decide) rfl rfl (eqF_int (by decide) rfl rfl (eqF_int (by decide) rfl rfl (eqF_bool (by decide) rfl rfl eqF_nil)))))
theorem eqs114 {a0 b0 : Int} {a1 b1 : Int} : EqS Tryd.prog 114 [.int .u32 a0, .int .u32 a1] [.int .u32 b0, .int .u32 b1] (a0 = b0 ∧ (a1 = b1 ∧ True)) := eqS_of _ Tryd.underlying114 (by kernel_rfl) (by kernel_rfl) (eqF_int (by decide) rfl rfl (eqF_int (by decide) rfl rfl eqF_nil))
theorem eqs115 {a0 b0 : Int} {a1 b1 : Int} : EqS Tryd.prog 115 [.int .u32 a0, .int .u32 a1] [.int .u32 b0, .int .u32 b1] (a0 = b0 ∧ (a1 = b1 ∧ True)) := eqS_of _ Tryd.underlying115 (by kernel_rfl) (by kernel_rfl) (eqF_int (by decide) rfl rfl (eqF_int (by decide) rfl rfl eqF_nil))
theorem eqs118 {a0 b0 : Int} {a1 b1 : Int} {a2 b2 : Int} {a3 b3 : Int} {a4 b4 : Int} {a5 b5 : Int} : EqS Tryd.prog 118 [.int .u32 a0, .int .i64 a1, .int .i64 a2, .int .i64 a3, .int .i64 a4, .int .i64 a5] [.int .u32 b0, .int .i64 b1, .int .i64 b2, .int .i64 b3, .int .i64 b4, .int .i64 b5] (a0 = b0 ∧ (a1 = b1 ∧ (a2 = b2 ∧ (a3 = b3 ∧ (a4 = b4 ∧ (a5 = b5 ∧ True)))))) := eqS_of _ Tryd.underlying118 (by kernel_rfl) (by kernel_rfl) (eqF_int (by decide) rfl rfl (eqF_int (by decide) rfl rfl (eqF_int (by decide) rfl rfl (eqF_int (by decide) rfl rfl (eqF_int (by decide) rfl rfl (eqF_int (by decide) rfl rfl eqF_nil))))))
theorem eqs119 {a0 b0 : Int} {a1 b1 : Int} {a2 b2 : Int} {a3 b3 : Int} {a4 b4 : Int} {a5 b5 : Int} : EqS Tryd.prog 119 [.int .u32 a0, .int .i64 a1, .int .i64 a2, .int .i64 a3, .int .i64 a4, .int .i64 a5] [.int .u32 b0, .int .i64 b1, .int .i64 b2, .int .i64 b3, .int .i64 b4, .int .i64 b5] (a0 = b0 ∧ (a1 = b1 ∧ (a2 = b2 ∧ (a3 = b3 ∧ (a4 = b4 ∧ (a5 = b5 ∧ True)))))) := eqS_of _ Tryd.underlying119 (by kernel_rfl) (by kernel_rfl) (eqF_int (by decide) rfl rfl (eqF_int (by decide) rfl rfl (eqF_int (by decide) rfl rfl (eqF_int (by decide) rfl rfl (eqF_int (by decide) rfl rfl (eqF_int (by decide) rfl rfl eqF_nil))))))
theorem eqs120 {a0 b0 : Int} {a1 b1 : Int} {a2 b2 : Int} {a3 b3 : Int} : EqS Tryd.prog 120 [.int .u32 a0, .int .i64 a1, .int .i64 a2, .int .i64 a3] [.int .u32 b0, .int .i64 b1, .int .i64 b2, .int .i64 b3] (a0 = b0 ∧ (a1 = b1 ∧ (a2 = b2 ∧ (a3 = b3 ∧ True)))) := eqS_of _ Tryd.underlying120 (by kernel_rfl) (by kernel_rfl) (eqF_int (by decide) rfl rfl (eqF_int (by decide) rfl rfl (eqF_int (by decide) rfl rfl (eqF_int (by decide) rfl rfl eqF_nil))))
theorem eqs121 {a0 b0 : Int} {a1 b1 : Int} {a2 b2 : Int} {a3 b3 : Int} : EqS Tryd.prog 121 [.int .u32 a0, .int .i64 a1, .int .i64 a2, .int .i64 a3] [.int .u32 b0, .int .i64 b1, .int .i64 b2, .int .i64 b3] (a0 = b0 ∧ (a1 = b1 ∧ (a2 = b2 ∧ (a3 = b3 ∧ True)))) := eqS_of _ Tryd.underlying121 (by kernel_rfl) (by kernel_rfl) (eqF_int (by decide) rfl rfl (eqF_int (by decide) rfl rfl (eqF_int (by decide) rfl rfl (eqF_int (by decide) rfl rfl eqF_nil))))
theorem eqs173 {a0 b0 : Int} : EqS Tryd.prog 173 [.int .i64 a0] [.int .i64 b0] (a0 = b0 ∧ True) := eqS_of _ Tryd.underlying173 (by kernel_rfl) (by kernel_rfl) (eqF_int (by decide) rfl rfl eqF_nil)
theorem eqs174 {a0 b0 : Int} : EqS Tryd.prog 174 [.int .i64 a0] [.int .i64 b0] (a0 = b0 ∧ True) := eqS_of _ Tryd.underlying174 (by kernel_rfl) (by kernel_rfl) (eqF_int (by decide) rfl rfl eqF_nil)
theorem eqs181 {a0 b0 : Int} : EqS Tryd.prog 181 [.int .i64 a0] [.int .i64 b0] (a0 = b0 ∧ True) := eqS_of _ Tryd.underlying181 (by kernel_rfl) (by kernel_rfl) (eqF_int (by decide) rfl rfl eqF_nil)
theorem eqs182 {a0 b0 : Int} : EqS Tryd.prog 182 [.int .i64 a0] [.int .i64 b0] (a0 = b0 ∧ True) := eqS_of _ Tryd.underlying182 (by kernel_rfl) (by kernel_rfl) (eqF_int (by decide) rfl rfl eqF_nil)
theorem eqs186 {a0 b0 : Int} : EqS Tryd.prog 186 [.int .i64 a0] [.int .i64 b0] (a0 = b0 ∧ True) := eqS_of _ Tryd.underlying186 (by kernel_rfl) (by kernel_rfl) (eqF_int (by decide) rfl rfl eqF_nil)
theorem eqs187 {a0 b0 : Int} : EqS Tryd.prog 187 [.int .i64 a0] [.int .i64 b0] (a0 = b0 ∧ True) := eqS_of _ Tryd.underlying187 (by kernel_rfl) (by kernel_rfl) (eqF_int (by decide) rfl rfl eqF_nil)
theorem eqs206 {a0 b0 : Int} {a1 b1 : Int} : EqS Tryd.prog 206 [.int .i64 a0, .int .i64 a1] [.int .i64 b0, .int .i64 b1] (a0 = b0 ∧ (a1 = b1 ∧ True)) := eqS_of _ Tryd.underlying206 (by kernel_rfl) (by kernel_rfl) (eqF_int (by decide) rfl rfl (eqF_int (by decide) rfl rfl eqF_nil))
theorem eqs207 {a0 b0 : Int} {a1 b1 : Int} : EqS Tryd.prog 207 [.int .i64 a0, .int .i64 a1] [.int .i64 b0, .int .i64 b1] (a0 = b0 ∧ (a1 = b1 ∧ True)) := eqS_of _ Tryd.underlying207 (by kernel_rfl) (by kernel_rfl) (eqF_int (by decide) rfl rfl (eqF_int (by decide) rfl rfl eqF_nil))
theorem eqs229 {a0 b0 : Int} : EqS Tryd.prog 229 [.int .i64 a0] [.int .i64 b0] (a0 = b0 ∧ True) := eqS_of _ Tryd.underlying229 (by kernel_rfl) (by kernel_rfl) (eqF_int (by decide) rfl rfl eqF_nil)
theorem eqs230 {a0 b0 : Int} : EqS Tryd.prog 230 [.int .i64 a0] [.int .i64 b0] (a0 = b0 ∧ True) := eqS_of _ Tryd.underlying230 (by kernel_rfl) (by kernel_rfl) (eqF_int (by decide) rfl rfl eqF_nil)
end Go.Proofs.YtbgdjdhbejbhkaaDoor
