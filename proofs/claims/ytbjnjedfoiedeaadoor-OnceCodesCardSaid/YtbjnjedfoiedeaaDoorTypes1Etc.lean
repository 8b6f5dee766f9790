/-
Contracts of functions, each proved by a walk through its code.
-/
import Derived.Test.YtbjnjedfoiedeaaDoorEngWEtc
import Derived.Test.YtbjnjedfoiedeaaDoorProg
import Derived.Test.YtbjnjedfoiedeaaDoorEngIEtc
set_option linter.unusedVariables false
namespace Go.Proofs.YtbjnjedfoiedeaaDoor
open Go.Eng
theorem hmix : Tryd.prog.follows .mixedOrders = true := by kernel_rfl
instance ti0 : TI Tryd.prog 0 (.tuple #[]) (.tuple #[]) 1 0 := ⟨Tryd.underlying0, by kernel_rfl⟩
instance ti1 : TI Tryd.prog 1 (.func #[] #[] false) (.nilFunc) 1 8 := ⟨Tryd.underlying1, by kernel_rfl⟩
instance ti2 : TI Tryd.prog 2 (.int .i64) (.int .i64 0) 1 8 := ⟨Tryd.underlying2, by kernel_rfl⟩
instance ti3 : TI Tryd.prog 3 (.int .i64) (.int .i64 0) 1 8 := ⟨Tryd.underlying3, by kernel_rfl⟩
instance ti4 : TI Tryd.prog 4 (.bool) (.bool false) 1 1 := ⟨Tryd.underlying4, by kernel_rfl⟩
instance ti5 : TI Tryd.prog 5 (.int .u8) (.int .u8 0) 1 1 := ⟨Tryd.underlying5, by kernel_rfl⟩
instance ti6 : TI Tryd.prog 6 (.int .u8) (.int .u8 0) 1 1 := ⟨Tryd.underlying6, by kernel_rfl⟩
instance ti7 : TI Tryd.prog 7 (.struct #[⟨ "x", 2, 0, false, "", "runtime", 0⟩, ⟨ "y", 3, 1, false, "", "runtime", 8⟩, ⟨ "signed", 4, 2, false, "", "runtime", 16⟩, ⟨ "code", 6, 3, false, "", "runtime", 17⟩]) (.agg #[.int .i64 0, .int .i64 0, .bool false, .int .u8 0]) 4 24 := ⟨Tryd.underlying7, by kernel_rfl⟩
instance si7 : SI Tryd.prog #[⟨ "x", 2, 0, false, "", "runtime", 0⟩, ⟨ "y", 3, 1, false, "", "runtime", 8⟩, ⟨ "signed", 4, 2, false, "", "runtime", 16⟩, ⟨ "code", 6, 3, false, "", "runtime", 17⟩] [(0, 1), (1, 1), (2, 1), (3, 1)] := ⟨fun w => by kernel_rfl⟩
instance ti8 : TI Tryd.prog 8 (.struct #[⟨ "x", 2, 0, false, "", "runtime", 0⟩, ⟨ "y", 3, 1, false, "", "runtime", 8⟩, ⟨ "signed", 4, 2, false, "", "runtime", 16⟩, ⟨ "code", 6, 3, false, "", "runtime", 17⟩]) (.agg #[.int .i64 0, .int .i64 0, .bool false, .int .u8 0]) 4 24 := ⟨Tryd.underlying8, by kernel_rfl⟩
instance ti9 : TI Tryd.prog 9 (.string) (.string ⟨#[]⟩) 1 16 := ⟨Tryd.underlying9, by kernel_rfl⟩
instance ti10 : TI Tryd.prog 10 (.string) (.string ⟨#[]⟩) 1 16 := ⟨Tryd.underlying10, by kernel_rfl⟩
instance ti11 : TI Tryd.prog 11 (.string) (.string ⟨#[]⟩) 1 16 := ⟨Tryd.underlying11, by kernel_rfl⟩
instance ti12 : TI Tryd.prog 12 (.int .u64) (.int .u64 0) 1 8 := ⟨Tryd.underlying12, by kernel_rfl⟩
instance ti13 : TI Tryd.prog 13 (.struct #[⟨ "msg", 9, 0, false, "", "runtime", 0⟩, ⟨ "addr", 12, 1, false, "", "runtime", 16⟩]) (.agg #[.string ⟨#[]⟩, .int .u64 0]) 2 24 := ⟨Tryd.underlying13, by kernel_rfl⟩
instance si13 : SI Tryd.prog #[⟨ "msg", 9, 0, false, "", "runtime", 0⟩, ⟨ "addr", 12, 1, false, "", "runtime", 16⟩] [(0, 1), (1, 1)] := ⟨fun w => by kernel_rfl⟩
instance ti14 : TI Tryd.prog 14 (.struct #[⟨ "msg", 9, 0, false, "", "runtime", 0⟩, ⟨ "addr", 12, 1, false, "", "runtime", 16⟩]) (.agg #[.string ⟨#[]⟩, .int .u64 0]) 2 24 := ⟨Tryd.underlying14, by kernel_rfl⟩
instance ti15 : TI Tryd.prog 15 (.pointer 183) (.pointer none) 1 8 := ⟨Tryd.underlying15, by kernel_rfl⟩
instance ti16 : TI Tryd.prog 16 (.pointer 186) (.pointer none) 1 8 := ⟨Tryd.underlying16, by kernel_rfl⟩
instance ti17 : TI Tryd.prog 17 (.pointer 194) (.pointer none) 1 8 := ⟨Tryd.underlying17, by kernel_rfl⟩
instance ti18 : TI Tryd.prog 18 (.struct #[⟨ "typ", 17, 0, false, "", "internal/runtime/maps", 0⟩]) (.agg #[.pointer none]) 1 8 := ⟨Tryd.underlying18, by kernel_rfl⟩
instance si18 : SI Tryd.prog #[⟨ "typ", 17, 0, false, "", "internal/runtime/maps", 0⟩] [(0, 1)] := ⟨fun w => by kernel_rfl⟩
instance ti19 : TI Tryd.prog 19 (.struct #[⟨ "typ", 17, 0, false, "", "internal/runtime/maps", 0⟩]) (.agg #[.pointer none]) 1 8 := ⟨Tryd.underlying19, by kernel_rfl⟩
instance ti20 : TI Tryd.prog 20 (.interface #[]) (.nilIface) 1 16 := ⟨Tryd.underlying20, by kernel_rfl⟩
instance ti21 : TI Tryd.prog 21 (.int .i32) (.int .i32 0) 1 4 := ⟨Tryd.underlying21, by kernel_rfl⟩
instance ti22 : TI Tryd.prog 22 (.slice 5) (.slice none 0 0) 1 24 := ⟨Tryd.underlying22, by kernel_rfl⟩
instance ti23 : TI Tryd.prog 23 (.slice 22) (.slice none 0 0) 1 24 := ⟨Tryd.underlying23, by kernel_rfl⟩
instance ti24 : TI Tryd.prog 24 (.struct #[⟨ "Code", 5, 0, false, "", "", 0⟩, ⟨ "Name", 22, 1, false, "", "", 8⟩, ⟨ "L", 23, 2, false, "", "", 32⟩]) (.agg #[.int .u8 0, .slice none 0 0, .slice none 0 0]) 3 56 := ⟨Tryd.underlying24, by kernel_rfl⟩
instance si24 : SI Tryd.prog #[⟨ "Code", 5, 0, false, "", "", 0⟩, ⟨ "Name", 22, 1, false, "", "", 8⟩, ⟨ "L", 23, 2, false, "", "", 32⟩] [(0, 1), (1, 1), (2, 1)] := ⟨fun w => by kernel_rfl⟩
instance ti25 : TI Tryd.prog 25 (.struct #[⟨ "Code", 5, 0, false, "", "", 0⟩, ⟨ "Name", 22, 1, false, "", "", 8⟩, ⟨ "L", 23, 2, false, "", "", 32⟩]) (.agg #[.int .u8 0, .slice none 0 0, .slice none 0 0]) 3 56 := ⟨Tryd.underlying25, by kernel_rfl⟩
instance ti26 : TI Tryd.prog 26 (.slice 37) (.slice none 0 0) 1 24 := ⟨Tryd.underlying26, by kernel_rfl⟩
instance ti27 : TI Tryd.prog 27 (.func #[] #[4] false) (.nilFunc) 1 8 := ⟨Tryd.underlying27, by kernel_rfl⟩
instance ti28 : TI Tryd.prog 28 (.int .u32) (.int .u32 0) 1 4 := ⟨Tryd.underlying28, by kernel_rfl⟩
instance ti29 : TI Tryd.prog 29 (.struct #[⟨ "Code", 28, 0, false, "", "", 0⟩, ⟨ "Kind", 3, 1, false, "", "", 8⟩, ⟨ "N", 3, 2, false, "", "", 16⟩, ⟨ "H", 3, 3, false, "", "", 24⟩]) (.agg #[.int .u32 0, .int .i64 0, .int .i64 0, .int .i64 0]) 4 32 := ⟨Tryd.underlying29, by kernel_rfl⟩
instance si29 : SI Tryd.prog #[⟨ "Code", 28, 0, false, "", "", 0⟩, ⟨ "Kind", 3, 1, false, "", "", 8⟩, ⟨ "N", 3, 2, false, "", "", 16⟩, ⟨ "H", 3, 3, false, "", "", 24⟩] [(0, 1), (1, 1), (2, 1), (3, 1)] := ⟨fun w => by kernel_rfl⟩
instance ti30 : TI Tryd.prog 30 (.struct #[⟨ "Code", 28, 0, false, "", "", 0⟩, ⟨ "Kind", 3, 1, false, "", "", 8⟩, ⟨ "N", 3, 2, false, "", "", 16⟩, ⟨ "H", 3, 3, false, "", "", 24⟩]) (.agg #[.int .u32 0, .int .i64 0, .int .i64 0, .int .i64 0]) 4 32 := ⟨Tryd.underlying30, by kernel_rfl⟩
instance ti31 : TI Tryd.prog 31 (.tuple #[30, 22, 23, 4]) (.tuple #[.agg #[.int .u32 0, .int .i64 0, .int .i64 0, .int .i64 0], .slice none 0 0, .slice none 0 0, .bool false]) 1 0 := ⟨Tryd.underlying31, by kernel_rfl⟩
instance ti32 : TI Tryd.prog 32 (.func #[25] #[30, 22, 23, 4] false) (.nilFunc) 1 8 := ⟨Tryd.underlying32, by kernel_rfl⟩
instance ti33 : TI Tryd.prog 33 (.pointer 86) (.pointer none) 1 8 := ⟨Tryd.underlying33, by kernel_rfl⟩
instance ti34 : TI Tryd.prog 34 (.int .i64) (.int .i64 0) 1 8 := ⟨Tryd.underlying34, by kernel_rfl⟩
instance ti35 : TI Tryd.prog 35 (.tuple #[33, 34]) (.tuple #[.pointer none, .int .i64 0]) 1 0 := ⟨Tryd.underlying35, by kernel_rfl⟩
instance ti36 : TI Tryd.prog 36 (.func #[30, 22, 23] #[33, 34] false) (.nilFunc) 1 8 := ⟨Tryd.underlying36, by kernel_rfl⟩
instance ti37 : TI Tryd.prog 37 (.int .i8) (.int .i8 0) 1 1 := ⟨Tryd.underlying37, by kernel_rfl⟩
instance ti38 : TI Tryd.prog 38 (.func #[30, 3] #[3] false) (.nilFunc) 1 8 := ⟨Tryd.underlying38, by kernel_rfl⟩
instance ti39 : TI Tryd.prog 39 (.func #[3] #[3] false) (.nilFunc) 1 8 := ⟨Tryd.underlying39, by kernel_rfl⟩
instance ti40 : TI Tryd.prog 40 (.tuple #[28, 23, 4]) (.tuple #[.int .u32 0, .slice none 0 0, .bool false]) 1 0 := ⟨Tryd.underlying40, by kernel_rfl⟩
instance ti41 : TI Tryd.prog 41 (.func #[] #[28, 23, 4] false) (.nilFunc) 1 8 := ⟨Tryd.underlying41, by kernel_rfl⟩
instance ti42 : TI Tryd.prog 42 (.func #[23, 23] #[4] false) (.nilFunc) 1 8 := ⟨Tryd.underlying42, by kernel_rfl⟩
instance ti43 : TI Tryd.prog 43 (.func #[30, 22, 23, 28] #[23] false) (.nilFunc) 1 8 := ⟨Tryd.underlying43, by kernel_rfl⟩
instance ti44 : TI Tryd.prog 44 (.func #[] #[3] false) (.nilFunc) 1 8 := ⟨Tryd.underlying44, by kernel_rfl⟩
instance ti45 : TI Tryd.prog 45 (.func #[25, 26] #[4] false) (.nilFunc) 1 8 := ⟨Tryd.underlying45, by kernel_rfl⟩
instance ti46 : TI Tryd.prog 46 (.int .u64) (.int .u64 0) 1 8 := ⟨Tryd.underlying46, by kernel_rfl⟩
instance ti47 : TI Tryd.prog 47 (.slice 3) (.slice none 0 0) 1 24 := ⟨Tryd.underlying47, by kernel_rfl⟩
instance ti48 : TI Tryd.prog 48 (.func #[28] #[3] false) (.nilFunc) 1 8 := ⟨Tryd.underlying48, by kernel_rfl⟩
instance ti49 : TI Tryd.prog 49 (.func #[5] #[4] false) (.nilFunc) 1 8 := ⟨Tryd.underlying49, by kernel_rfl⟩
instance ti50 : TI Tryd.prog 50 (.func #[30, 22, 23] #[4] false) (.nilFunc) 1 8 := ⟨Tryd.underlying50, by kernel_rfl⟩
instance ti51 : TI Tryd.prog 51 (.func #[25, 5] #[4] false) (.nilFunc) 1 8 := ⟨Tryd.underlying51, by kernel_rfl⟩
instance ti52 : TI Tryd.prog 52 (.func #[30, 22, 23] #[22] false) (.nilFunc) 1 8 := ⟨Tryd.underlying52, by kernel_rfl⟩
instance ti53 : TI Tryd.prog 53 (.tuple #[22, 34]) (.tuple #[.slice none 0 0, .int .i64 0]) 1 0 := ⟨Tryd.underlying53, by kernel_rfl⟩
instance ti54 : TI Tryd.prog 54 (.func #[30, 22, 28, 22, 23] #[22, 34] false) (.nilFunc) 1 8 := ⟨Tryd.underlying54, by kernel_rfl⟩
instance ti55 : TI Tryd.prog 55 (.func #[22, 22] #[4] false) (.nilFunc) 1 8 := ⟨Tryd.underlying55, by kernel_rfl⟩
instance ti56 : TI Tryd.prog 56 (.func #[25, 28] #[4] false) (.nilFunc) 1 8 := ⟨Tryd.underlying56, by kernel_rfl⟩
instance ti57 : TI Tryd.prog 57 (.struct #[⟨ "Name", 22, 0, false, "", "", 0⟩, ⟨ "Secret", 22, 1, false, "", "", 24⟩]) (.agg #[.slice none 0 0, .slice none 0 0]) 2 48 := ⟨Tryd.underlying57, by kernel_rfl⟩
instance si57 : SI Tryd.prog #[⟨ "Name", 22, 0, false, "", "", 0⟩, ⟨ "Secret", 22, 1, false, "", "", 24⟩] [(0, 1), (1, 1)] := ⟨fun w => by kernel_rfl⟩
instance ti58 : TI Tryd.prog 58 (.struct #[⟨ "Name", 22, 0, false, "", "", 0⟩, ⟨ "Secret", 22, 1, false, "", "", 24⟩]) (.agg #[.slice none 0 0, .slice none 0 0]) 2 48 := ⟨Tryd.underlying58, by kernel_rfl⟩
instance ti59 : TI Tryd.prog 59 (.struct #[⟨ "Q", 28, 0, false, "", "", 0⟩, ⟨ "Text", 22, 1, false, "", "", 8⟩]) (.agg #[.int .u32 0, .slice none 0 0]) 2 32 := ⟨Tryd.underlying59, by kernel_rfl⟩
instance si59 : SI Tryd.prog #[⟨ "Q", 28, 0, false, "", "", 0⟩, ⟨ "Text", 22, 1, false, "", "", 8⟩] [(0, 1), (1, 1)] := ⟨fun w => by kernel_rfl⟩
instance ti60 : TI Tryd.prog 60 (.struct #[⟨ "Q", 28, 0, false, "", "", 0⟩, ⟨ "Text", 22, 1, false, "", "", 8⟩]) (.agg #[.int .u32 0, .slice none 0 0]) 2 32 := ⟨Tryd.underlying60, by kernel_rfl⟩
instance ti61 : TI Tryd.prog 61 (.struct #[⟨ "Code", 28, 0, false, "", "", 0⟩, ⟨ "Kind", 3, 1, false, "", "", 8⟩, ⟨ "N", 3, 2, false, "", "", 16⟩, ⟨ "W", 3, 3, false, "", "", 24⟩, ⟨ "P", 3, 4, false, "", "", 32⟩, ⟨ "Shift", 3, 5, false, "", "", 40⟩]) (.agg #[.int .u32 0, .int .i64 0, .int .i64 0, .int .i64 0, .int .i64 0, .int .i64 0]) 6 48 := ⟨Tryd.underlying61, by kernel_rfl⟩
instance si61 : SI Tryd.prog #[⟨ "Code", 28, 0, false, "", "", 0⟩, ⟨ "Kind", 3, 1, false, "", "", 8⟩, ⟨ "N", 3, 2, false, "", "", 16⟩, ⟨ "W", 3, 3, false, "", "", 24⟩, ⟨ "P", 3, 4, false, "", "", 32⟩, ⟨ "Shift", 3, 5, false, "", "", 40⟩] [(0, 1), (1, 1), (2, 1), (3, 1), (4, 1), (5, 1)] := ⟨fun w => by kernel_rfl⟩
instance ti62 : TI Tryd.prog 62 (.struct #[⟨ "Code", 28, 0, false, "", "", 0⟩, ⟨ "Kind", 3, 1, false, "", "", 8⟩, ⟨ "N", 3, 2, false, "", "", 16⟩, ⟨ "W", 3, 3, false, "", "", 24⟩, ⟨ "P", 3, 4, false, "", "", 32⟩, ⟨ "Shift", 3, 5, false, "", "", 40⟩]) (.agg #[.int .u32 0, .int .i64 0, .int .i64 0, .int .i64 0, .int .i64 0, .int .i64 0]) 6 48 := ⟨Tryd.underlying62, by kernel_rfl⟩
instance ti63 : TI Tryd.prog 63 (.tuple #[62, 34]) (.tuple #[.agg #[.int .u32 0, .int .i64 0, .int .i64 0, .int .i64 0, .int .i64 0, .int .i64 0], .int .i64 0]) 1 0 := ⟨Tryd.underlying63, by kernel_rfl⟩
instance ti64 : TI Tryd.prog 64 (.func #[28] #[62, 34] false) (.nilFunc) 1 8 := ⟨Tryd.underlying64, by kernel_rfl⟩
instance ti65 : TI Tryd.prog 65 (.func #[62] #[4] false) (.nilFunc) 1 8 := ⟨Tryd.underlying65, by kernel_rfl⟩
instance ti66 : TI Tryd.prog 66 (.func #[62, 58] #[4] false) (.nilFunc) 1 8 := ⟨Tryd.underlying66, by kernel_rfl⟩
instance ti67 : TI Tryd.prog 67 (.func #[62, 58, 28, 22] #[22] false) (.nilFunc) 1 8 := ⟨Tryd.underlying67, by kernel_rfl⟩
instance ti68 : TI Tryd.prog 68 (.func #[22, 28, 22, 22] #[22, 34] false) (.nilFunc) 1 8 := ⟨Tryd.underlying68, by kernel_rfl⟩
instance ti69 : TI Tryd.prog 69 (.func #[62] #[3] false) (.nilFunc) 1 8 := ⟨Tryd.underlying69, by kernel_rfl⟩
instance ti70 : TI Tryd.prog 70 (.func #[62, 58, 28] #[22] false) (.nilFunc) 1 8 := ⟨Tryd.underlying70, by kernel_rfl⟩
instance ti71 : TI Tryd.prog 71 (.func #[5, 58, 60] #[4] false) (.nilFunc) 1 8 := ⟨Tryd.underlying71, by kernel_rfl⟩
instance ti72 : TI Tryd.prog 72 (.int .u16) (.int .u16 0) 1 2 := ⟨Tryd.underlying72, by kernel_rfl⟩
instance ti73 : TI Tryd.prog 73 (.func #[74, 3] #[22] false) (.nilFunc) 1 8 := ⟨Tryd.underlying73, by kernel_rfl⟩
instance ti74 : TI Tryd.prog 74 (.int .u64) (.int .u64 0) 1 8 := ⟨Tryd.underlying74, by kernel_rfl⟩
instance ti75 : TI Tryd.prog 75 (.func #[28, 72] #[4] false) (.nilFunc) 1 8 := ⟨Tryd.underlying75, by kernel_rfl⟩
instance ti76 : TI Tryd.prog 76 (.func #[22, 3] #[47] false) (.nilFunc) 1 8 := ⟨Tryd.underlying76, by kernel_rfl⟩
instance ti77 : TI Tryd.prog 77 (.func #[3, 3, 22, 28, 72, 23] #[22] true) (.nilFunc) 1 8 := ⟨Tryd.underlying77, by kernel_rfl⟩
instance ti78 : TI Tryd.prog 78 (.func #[62, 22, 28, 3, 3, 3, 22] #[22] false) (.nilFunc) 1 8 := ⟨Tryd.underlying78, by kernel_rfl⟩
instance ti79 : TI Tryd.prog 79 (.func #[62, 58, 28, 72] #[22] false) (.nilFunc) 1 8 := ⟨Tryd.underlying79, by kernel_rfl⟩
instance ti80 : TI Tryd.prog 80 (.func #[58, 28, 22] #[4] false) (.nilFunc) 1 8 := ⟨Tryd.underlying80, by kernel_rfl⟩
instance ti81 : TI Tryd.prog 81 (.tuple #[30, 34]) (.tuple #[.agg #[.int .u32 0, .int .i64 0, .int .i64 0, .int .i64 0], .int .i64 0]) 1 0 := ⟨Tryd.underlying81, by kernel_rfl⟩
instance ti82 : TI Tryd.prog 82 (.func #[28] #[30, 34] false) (.nilFunc) 1 8 := ⟨Tryd.underlying82, by kernel_rfl⟩
instance ti83 : TI Tryd.prog 83 (.func #[30] #[74] false) (.nilFunc) 1 8 := ⟨Tryd.underlying83, by kernel_rfl⟩
instance ti84 : TI Tryd.prog 84 (.func #[22] #[22] false) (.nilFunc) 1 8 := ⟨Tryd.underlying84, by kernel_rfl⟩
instance ti85 : TI Tryd.prog 85 (.struct #[⟨ "t", 30, 0, false, "", "tearoff/walk", 0⟩, ⟨ "name", 22, 4, false, "", "tearoff/walk", 32⟩, ⟨ "keys", 23, 5, false, "", "tearoff/walk", 56⟩, ⟨ "q", 3, 6, false, "", "tearoff/walk", 80⟩, ⟨ "way", 23, 7, false, "", "tearoff/walk", 88⟩, ⟨ "made", 3, 8, false, "", "tearoff/walk", 112⟩]) (.agg #[.int .u32 0, .int .i64 0, .int .i64 0, .int .i64 0, .slice none 0 0, .slice none 0 0, .int .i64 0, .slice none 0 0, .int .i64 0]) 9 120 := ⟨Tryd.underlying85, by kernel_rfl⟩
instance si85 : SI Tryd.prog #[⟨ "t", 30, 0, false, "", "tearoff/walk", 0⟩, ⟨ "name", 22, 4, false, "", "tearoff/walk", 32⟩, ⟨ "keys", 23, 5, false, "", "tearoff/walk", 56⟩, ⟨ "q", 3, 6, false, "", "tearoff/walk", 80⟩, ⟨ "way", 23, 7, false, "", "tearoff/walk", 88⟩, ⟨ "made", 3, 8, false, "", "tearoff/walk", 112⟩] [(0, 4), (4, 1), (5, 1), (6, 1), (7, 1), (8, 1)] := ⟨fun w => by kernel_rfl⟩
instance ti86 : TI Tryd.prog 86 (.struct #[⟨ "t", 30, 0, false, "", "tearoff/walk", 0⟩, ⟨ "name", 22, 4, false, "", "tearoff/walk", 32⟩, ⟨ "keys", 23, 5, false, "", "tearoff/walk", 56⟩, ⟨ "q", 3, 6, false, "", "tearoff/walk", 80⟩, ⟨ "way", 23, 7, false, "", "tearoff/walk", 88⟩, ⟨ "made", 3, 8, false, "", "tearoff/walk", 112⟩]) (.agg #[.int .u32 0, .int .i64 0, .int .i64 0, .int .i64 0, .slice none 0 0, .slice none 0 0, .int .i64 0, .slice none 0 0, .int .i64 0]) 9 120 := ⟨Tryd.underlying86, by kernel_rfl⟩
instance ti87 : TI Tryd.prog 87 (.func #[30, 22, 23, 28] #[22] false) (.nilFunc) 1 8 := ⟨Tryd.underlying87, by kernel_rfl⟩
instance ti88 : TI Tryd.prog 88 (.func #[74] #[3] false) (.nilFunc) 1 8 := ⟨Tryd.underlying88, by kernel_rfl⟩
instance ti89 : TI Tryd.prog 89 (.func #[30, 22] #[4] false) (.nilFunc) 1 8 := ⟨Tryd.underlying89, by kernel_rfl⟩
instance ti90 : TI Tryd.prog 90 (.slice 23) (.slice none 0 0) 1 24 := ⟨Tryd.underlying90, by kernel_rfl⟩
instance ti91 : TI Tryd.prog 91 (.func #[30, 22, 23] #[90] false) (.nilFunc) 1 8 := ⟨Tryd.underlying91, by kernel_rfl⟩
instance ti92 : TI Tryd.prog 92 (.func #[23, 93] #[4] false) (.nilFunc) 1 8 := ⟨Tryd.underlying92, by kernel_rfl⟩
instance ti93 : TI Tryd.prog 93 (.func #[22] #[4] false) (.nilFunc) 1 8 := ⟨Tryd.underlying93, by kernel_rfl⟩
instance ti94 : TI Tryd.prog 94 (.func #[30, 22, 28, 22] #[22] false) (.nilFunc) 1 8 := ⟨Tryd.underlying94, by kernel_rfl⟩
instance ti95 : TI Tryd.prog 95 (.array 2 22) (.agg #[.slice none 0 0, .slice none 0 0]) 2 48 := ⟨Tryd.underlying95, by kernel_rfl⟩
instance ti96 : TI Tryd.prog 96 (.func #[30, 22, 28, 22, 22] #[22] false) (.nilFunc) 1 8 := ⟨Tryd.underlying96, by kernel_rfl⟩
instance ti97 : TI Tryd.prog 97 (.tuple #[3, 3]) (.tuple #[.int .i64 0, .int .i64 0]) 1 0 := ⟨Tryd.underlying97, by kernel_rfl⟩
instance ti98 : TI Tryd.prog 98 (.func #[3] #[3, 3] false) (.nilFunc) 1 8 := ⟨Tryd.underlying98, by kernel_rfl⟩
instance ti99 : TI Tryd.prog 99 (.tuple #[3, 3, 3]) (.tuple #[.int .i64 0, .int .i64 0, .int .i64 0]) 1 0 := ⟨Tryd.underlying99, by kernel_rfl⟩
instance ti100 : TI Tryd.prog 100 (.func #[3, 3] #[3, 3, 3] false) (.nilFunc) 1 8 := ⟨Tryd.underlying100, by kernel_rfl⟩
instance ti101 : TI Tryd.prog 101 (.func #[62, 22, 28, 22, 22] #[47] false) (.nilFunc) 1 8 := ⟨Tryd.underlying101, by kernel_rfl⟩
instance ti102 : TI Tryd.prog 102 (.func #[62, 103] #[22] false) (.nilFunc) 1 8 := ⟨Tryd.underlying102, by kernel_rfl⟩
instance ti103 : TI Tryd.prog 103 (.func #[3] #[22] false) (.nilFunc) 1 8 := ⟨Tryd.underlying103, by kernel_rfl⟩
instance ti104 : TI Tryd.prog 104 (.func #[23] #[22] true) (.nilFunc) 1 8 := ⟨Tryd.underlying104, by kernel_rfl⟩
instance ti105 : TI Tryd.prog 105 (.func #[22] #[62, 34] false) (.nilFunc) 1 8 := ⟨Tryd.underlying105, by kernel_rfl⟩
instance ti106 : TI Tryd.prog 106 (.func #[22, 3] #[3] false) (.nilFunc) 1 8 := ⟨Tryd.underlying106, by kernel_rfl⟩
instance ti107 : TI Tryd.prog 107 (.func #[110] #[22] false) (.nilFunc) 1 8 := ⟨Tryd.underlying107, by kernel_rfl⟩
instance ti108 : TI Tryd.prog 108 (.func #[4] #[] false) (.nilFunc) 1 8 := ⟨Tryd.underlying108, by kernel_rfl⟩
instance ti109 : TI Tryd.prog 109 (.func #[3, 3, 23] #[22] true) (.nilFunc) 1 8 := ⟨Tryd.underlying109, by kernel_rfl⟩
instance ti110 : TI Tryd.prog 110 (.func #[] #[22] false) (.nilFunc) 1 8 := ⟨Tryd.underlying110, by kernel_rfl⟩
instance ti111 : TI Tryd.prog 111 (.func #[62, 22, 3, 22] #[] false) (.nilFunc) 1 8 := ⟨Tryd.underlying111, by kernel_rfl⟩
instance ti112 : TI Tryd.prog 112 (.func #[62, 22, 28, 3, 3, 22] #[22] false) (.nilFunc) 1 8 := ⟨Tryd.underlying112, by kernel_rfl⟩
instance ti113 : TI Tryd.prog 113 (.func #[28] #[22] false) (.nilFunc) 1 8 := ⟨Tryd.underlying113, by kernel_rfl⟩
instance ti114 : TI Tryd.prog 114 (.func #[] #[113] false) (.nilFunc) 1 8 := ⟨Tryd.underlying114, by kernel_rfl⟩
instance ti115 : TI Tryd.prog 115 (.func #[3, 3, 22, 28, 72, 22] #[22] false) (.nilFunc) 1 8 := ⟨Tryd.underlying115, by kernel_rfl⟩
instance ti116 : TI Tryd.prog 116 (.array 64 5) (.agg #[.int .u8 0, .int .u8 0, .int .u8 0, .int .u8 0, .int .u8 0, .int .u8 0, .int .u8 0, .int .u8 0, .int .u8 0, .int .u8 0, .int .u8 0, .int .u8 0, .int .u8 0, .int .u8 0, .int .u8 0, .int .u8 0, .int .u8 0, .int .u8 0, .int .u8 0, .int .u8 0, .int .u8 0, .int .u8 0, .int .u8 0, .int .u8 0, .int .u8 0, .int .u8 0, .int .u8 0, .int .u8 0, .int .u8 0, .int .u8 0, .int .u8 0, .int .u8 0, .int .u8 0, .int .u8 0, .int .u8 0, .int .u8 0, .int .u8 0, .int .u8 0, .int .u8 0, .int .u8 0, .int .u8 0, .int .u8 0, .int .u8 0, .int .u8 0, .int .u8 0, .int .u8 0, .int .u8 0, .int .u8 0, .int .u8 0, .int .u8 0, .int .u8 0, .int .u8 0, .int .u8 0, .int .u8 0, .int .u8 0, .int .u8 0, .int .u8 0, .int .u8 0, .int .u8 0, .int .u8 0, .int .u8 0, .int .u8 0, .int .u8 0, .int .u8 0]) 64 64 := ⟨Tryd.underlying116, by kernel_rfl⟩
instance ti117 : TI Tryd.prog 117 (.func #[143] #[] false) (.nilFunc) 1 8 := ⟨Tryd.underlying117, by kernel_rfl⟩
instance ti118 : TI Tryd.prog 118 (.func #[143] #[] false) (.nilFunc) 1 8 := ⟨Tryd.underlying118, by kernel_rfl⟩
instance ti119 : TI Tryd.prog 119 (.func #[23] #[118] false) (.nilFunc) 1 8 := ⟨Tryd.underlying119, by kernel_rfl⟩
instance ti120 : TI Tryd.prog 120 (.func #[23, 93] #[3] false) (.nilFunc) 1 8 := ⟨Tryd.underlying120, by kernel_rfl⟩
instance ti121 : TI Tryd.prog 121 (.func #[3] #[4] false) (.nilFunc) 1 8 := ⟨Tryd.underlying121, by kernel_rfl⟩
instance ti122 : TI Tryd.prog 122 (.func #[23, 22] #[22] false) (.nilFunc) 1 8 := ⟨Tryd.underlying122, by kernel_rfl⟩
instance ti123 : TI Tryd.prog 123 (.tuple #[74, 4]) (.tuple #[.int .u64 0, .bool false]) 1 0 := ⟨Tryd.underlying123, by kernel_rfl⟩
instance ti124 : TI Tryd.prog 124 (.func #[22] #[74, 4] false) (.nilFunc) 1 8 := ⟨Tryd.underlying124, by kernel_rfl⟩
instance ti125 : TI Tryd.prog 125 (.func #[131] #[62, 34] false) (.nilFunc) 1 8 := ⟨Tryd.underlying125, by kernel_rfl⟩
instance ti126 : TI Tryd.prog 126 (.struct #[⟨ "kind", 3, 0, false, "", "tearoff/sets", 0⟩, ⟨ "n", 3, 1, false, "", "tearoff/sets", 8⟩]) (.agg #[.int .i64 0, .int .i64 0]) 2 16 := ⟨Tryd.underlying126, by kernel_rfl⟩
instance si126 : SI Tryd.prog #[⟨ "kind", 3, 0, false, "", "tearoff/sets", 0⟩, ⟨ "n", 3, 1, false, "", "tearoff/sets", 8⟩] [(0, 1), (1, 1)] := ⟨fun w => by kernel_rfl⟩
instance ti127 : TI Tryd.prog 127 (.struct #[⟨ "kind", 3, 0, false, "", "tearoff/sets", 0⟩, ⟨ "n", 3, 1, false, "", "tearoff/sets", 8⟩]) (.agg #[.int .i64 0, .int .i64 0]) 2 16 := ⟨Tryd.underlying127, by kernel_rfl⟩
instance ti128 : TI Tryd.prog 128 (.tuple #[127, 3]) (.tuple #[.agg #[.int .i64 0, .int .i64 0], .int .i64 0]) 1 0 := ⟨Tryd.underlying128, by kernel_rfl⟩
instance ti129 : TI Tryd.prog 129 (.func #[28, 28, 3] #[127, 3] false) (.nilFunc) 1 8 := ⟨Tryd.underlying129, by kernel_rfl⟩
instance ti130 : TI Tryd.prog 130 (.array 4 3) (.agg #[.int .i64 0, .int .i64 0, .int .i64 0, .int .i64 0]) 4 32 := ⟨Tryd.underlying130, by kernel_rfl⟩
instance ti131 : TI Tryd.prog 131 (.func #[] #[62] false) (.nilFunc) 1 8 := ⟨Tryd.underlying131, by kernel_rfl⟩
instance ti132 : TI Tryd.prog 132 (.func #[46] #[3] false) (.nilFunc) 1 8 := ⟨Tryd.underlying132, by kernel_rfl⟩
instance ti133 : TI Tryd.prog 133 (.func #[121] #[] false) (.nilFunc) 1 8 := ⟨Tryd.underlying133, by kernel_rfl⟩
instance ti134 : TI Tryd.prog 134 (.func #[121] #[] false) (.nilFunc) 1 8 := ⟨Tryd.underlying134, by kernel_rfl⟩
instance ti135 : TI Tryd.prog 135 (.func #[22, 3] #[134] false) (.nilFunc) 1 8 := ⟨Tryd.underlying135, by kernel_rfl⟩
instance ti136 : TI Tryd.prog 136 (.struct #[]) (.agg #[]) 0 0 := ⟨Tryd.underlying136, by kernel_rfl⟩
instance si136 : SI Tryd.prog #[] [] := ⟨fun w => by kernel_rfl⟩
instance ti137 : TI Tryd.prog 137 (.struct #[]) (.agg #[]) 0 0 := ⟨Tryd.underlying137, by kernel_rfl⟩
instance ti138 : TI Tryd.prog 138 (.func #[22, 3] #[22] false) (.nilFunc) 1 8 := ⟨Tryd.underlying138, by kernel_rfl⟩
instance ti139 : TI Tryd.prog 139 (.func #[3, 3, 22] #[22] false) (.nilFunc) 1 8 := ⟨Tryd.underlying139, by kernel_rfl⟩
instance ti140 : TI Tryd.prog 140 (.func #[142] #[30, 34] false) (.nilFunc) 1 8 := ⟨Tryd.underlying140, by kernel_rfl⟩
instance ti141 : TI Tryd.prog 141 (.array 5 3) (.agg #[.int .i64 0, .int .i64 0, .int .i64 0, .int .i64 0, .int .i64 0]) 5 40 := ⟨Tryd.underlying141, by kernel_rfl⟩
instance ti142 : TI Tryd.prog 142 (.func #[] #[30] false) (.nilFunc) 1 8 := ⟨Tryd.underlying142, by kernel_rfl⟩
instance ti143 : TI Tryd.prog 143 (.func #[3, 95] #[4] false) (.nilFunc) 1 8 := ⟨Tryd.underlying143, by kernel_rfl⟩
instance ti144 : TI Tryd.prog 144 (.func #[62, 22, 3, 22] #[4] false) (.nilFunc) 1 8 := ⟨Tryd.underlying144, by kernel_rfl⟩
instance ti145 : TI Tryd.prog 145 (.struct #[]) (.agg #[]) 0 0 := ⟨Tryd.underlying145, by kernel_rfl⟩
instance ti146 : TI Tryd.prog 146 (.array 4 127) (.agg #[.int .i64 0, .int .i64 0, .int .i64 0, .int .i64 0, .int .i64 0, .int .i64 0, .int .i64 0, .int .i64 0]) 8 64 := ⟨Tryd.underlying146, by kernel_rfl⟩
instance ti147 : TI Tryd.prog 147 (.func #[] #[130] false) (.nilFunc) 1 8 := ⟨Tryd.underlying147, by kernel_rfl⟩
instance ti148 : TI Tryd.prog 148 (.func #[47, 3] #[4] false) (.nilFunc) 1 8 := ⟨Tryd.underlying148, by kernel_rfl⟩
instance ti149 : TI Tryd.prog 149 (.pointer 157) (.pointer none) 1 8 := ⟨Tryd.underlying149, by kernel_rfl⟩
instance ti150 : TI Tryd.prog 150 (.func #[] #[149] false) (.nilFunc) 1 8 := ⟨Tryd.underlying150, by kernel_rfl⟩
instance ti151 : TI Tryd.prog 151 (.func #[22] #[] false) (.nilFunc) 1 8 := ⟨Tryd.underlying151, by kernel_rfl⟩
instance ti152 : TI Tryd.prog 152 (.pointer 161) (.pointer none) 1 8 := ⟨Tryd.underlying152, by kernel_rfl⟩
instance ti153 : TI Tryd.prog 153 (.func #[22] #[152] false) (.nilFunc) 1 8 := ⟨Tryd.underlying153, by kernel_rfl⟩
instance ti154 : TI Tryd.prog 154 (.func #[47, 3] #[3] false) (.nilFunc) 1 8 := ⟨Tryd.underlying154, by kernel_rfl⟩
instance ti155 : TI Tryd.prog 155 (.array 8 28) (.agg #[.int .u32 0, .int .u32 0, .int .u32 0, .int .u32 0, .int .u32 0, .int .u32 0, .int .u32 0, .int .u32 0]) 8 32 := ⟨Tryd.underlying155, by kernel_rfl⟩
instance ti156 : TI Tryd.prog 156 (.struct #[⟨ "state", 155, 0, false, "", "tearoff/sha2", 0⟩, ⟨ "rest", 22, 8, false, "", "tearoff/sha2", 32⟩, ⟨ "n", 74, 9, false, "", "tearoff/sha2", 56⟩]) (.agg #[.int .u32 0, .int .u32 0, .int .u32 0, .int .u32 0, .int .u32 0, .int .u32 0, .int .u32 0, .int .u32 0, .slice none 0 0, .int .u64 0]) 10 64 := ⟨Tryd.underlying156, by kernel_rfl⟩
instance si156 : SI Tryd.prog #[⟨ "state", 155, 0, false, "", "tearoff/sha2", 0⟩, ⟨ "rest", 22, 8, false, "", "tearoff/sha2", 32⟩, ⟨ "n", 74, 9, false, "", "tearoff/sha2", 56⟩] [(0, 8), (8, 1), (9, 1)] := ⟨fun w => by kernel_rfl⟩
instance ti157 : TI Tryd.prog 157 (.struct #[⟨ "state", 155, 0, false, "", "tearoff/sha2", 0⟩, ⟨ "rest", 22, 8, false, "", "tearoff/sha2", 32⟩, ⟨ "n", 74, 9, false, "", "tearoff/sha2", 56⟩]) (.agg #[.int .u32 0, .int .u32 0, .int .u32 0, .int .u32 0, .int .u32 0, .int .u32 0, .int .u32 0, .int .u32 0, .slice none 0 0, .int .u64 0]) 10 64 := ⟨Tryd.underlying157, by kernel_rfl⟩
instance ti158 : TI Tryd.prog 158 (.func #[155, 116] #[155] false) (.nilFunc) 1 8 := ⟨Tryd.underlying158, by kernel_rfl⟩
instance ti159 : TI Tryd.prog 159 (.array 25 74) (.agg #[.int .u64 0, .int .u64 0, .int .u64 0, .int .u64 0, .int .u64 0, .int .u64 0, .int .u64 0, .int .u64 0, .int .u64 0, .int .u64 0, .int .u64 0, .int .u64 0, .int .u64 0, .int .u64 0, .int .u64 0, .int .u64 0, .int .u64 0, .int .u64 0, .int .u64 0, .int .u64 0, .int .u64 0, .int .u64 0, .int .u64 0, .int .u64 0, .int .u64 0]) 25 200 := ⟨Tryd.underlying159, by kernel_rfl⟩
instance ti160 : TI Tryd.prog 160 (.struct #[⟨ "s", 159, 0, false, "", "tearoff/shake", 0⟩, ⟨ "rest", 22, 25, false, "", "tearoff/shake", 200⟩]) (.agg #[.int .u64 0, .int .u64 0, .int .u64 0, .int .u64 0, .int .u64 0, .int .u64 0, .int .u64 0, .int .u64 0, .int .u64 0, .int .u64 0, .int .u64 0, .int .u64 0, .int .u64 0, .int .u64 0, .int .u64 0, .int .u64 0, .int .u64 0, .int .u64 0, .int .u64 0, .int .u64 0, .int .u64 0, .int .u64 0, .int .u64 0, .int .u64 0, .int .u64 0, .slice none 0 0]) 26 224 := ⟨Tryd.underlying160, by kernel_rfl⟩
instance si160 : SI Tryd.prog #[⟨ "s", 159, 0, false, "", "tearoff/shake", 0⟩, ⟨ "rest", 22, 25, false, "", "tearoff/shake", 200⟩] [(0, 25), (25, 1)] := ⟨fun w => by kernel_rfl⟩
instance ti161 : TI Tryd.prog 161 (.struct #[⟨ "s", 159, 0, false, "", "tearoff/shake", 0⟩, ⟨ "rest", 22, 25, false, "", "tearoff/shake", 200⟩]) (.agg #[.int .u64 0, .int .u64 0, .int .u64 0, .int .u64 0, .int .u64 0, .int .u64 0, .int .u64 0, .int .u64 0, .int .u64 0, .int .u64 0, .int .u64 0, .int .u64 0, .int .u64 0, .int .u64 0, .int .u64 0, .int .u64 0, .int .u64 0, .int .u64 0, .int .u64 0, .int .u64 0, .int .u64 0, .int .u64 0, .int .u64 0, .int .u64 0, .int .u64 0, .slice none 0 0]) 26 224 := ⟨Tryd.underlying161, by kernel_rfl⟩
instance ti162 : TI Tryd.prog 162 (.func #[159, 22] #[159] false) (.nilFunc) 1 8 := ⟨Tryd.underlying162, by kernel_rfl⟩
instance ti163 : TI Tryd.prog 163 (.func #[159] #[22] false) (.nilFunc) 1 8 := ⟨Tryd.underlying163, by kernel_rfl⟩
instance ti164 : TI Tryd.prog 164 (.func #[159] #[159] false) (.nilFunc) 1 8 := ⟨Tryd.underlying164, by kernel_rfl⟩
instance ti165 : TI Tryd.prog 165 (.func #[155, 22] #[155] false) (.nilFunc) 1 8 := ⟨Tryd.underlying165, by kernel_rfl⟩
instance ti166 : TI Tryd.prog 166 (.array 24 74) (.agg #[.int .u64 0, .int .u64 0, .int .u64 0, .int .u64 0, .int .u64 0, .int .u64 0, .int .u64 0, .int .u64 0, .int .u64 0, .int .u64 0, .int .u64 0, .int .u64 0, .int .u64 0, .int .u64 0, .int .u64 0, .int .u64 0, .int .u64 0, .int .u64 0, .int .u64 0, .int .u64 0, .int .u64 0, .int .u64 0, .int .u64 0, .int .u64 0]) 24 192 := ⟨Tryd.underlying166, by kernel_rfl⟩
instance ti167 : TI Tryd.prog 167 (.func #[] #[166] false) (.nilFunc) 1 8 := ⟨Tryd.underlying167, by kernel_rfl⟩
instance ti168 : TI Tryd.prog 168 (.func #[159, 166] #[159] false) (.nilFunc) 1 8 := ⟨Tryd.underlying168, by kernel_rfl⟩
instance ti169 : TI Tryd.prog 169 (.array 64 28) (.agg #[.int .u32 0, .int .u32 0, .int .u32 0, .int .u32 0, .int .u32 0, .int .u32 0, .int .u32 0, .int .u32 0, .int .u32 0, .int .u32 0, .int .u32 0, .int .u32 0, .int .u32 0, .int .u32 0, .int .u32 0, .int .u32 0, .int .u32 0, .int .u32 0, .int .u32 0, .int .u32 0, .int .u32 0, .int .u32 0, .int .u32 0, .int .u32 0, .int .u32 0, .int .u32 0, .int .u32 0, .int .u32 0, .int .u32 0, .int .u32 0, .int .u32 0, .int .u32 0, .int .u32 0, .int .u32 0, .int .u32 0, .int .u32 0, .int .u32 0, .int .u32 0, .int .u32 0, .int .u32 0, .int .u32 0, .int .u32 0, .int .u32 0, .int .u32 0, .int .u32 0, .int .u32 0, .int .u32 0, .int .u32 0, .int .u32 0, .int .u32 0, .int .u32 0, .int .u32 0, .int .u32 0, .int .u32 0, .int .u32 0, .int .u32 0, .int .u32 0, .int .u32 0, .int .u32 0, .int .u32 0, .int .u32 0, .int .u32 0, .int .u32 0, .int .u32 0]) 64 256 := ⟨Tryd.underlying169, by kernel_rfl⟩
instance ti170 : TI Tryd.prog 170 (.func #[116] #[169] false) (.nilFunc) 1 8 := ⟨Tryd.underlying170, by kernel_rfl⟩
instance ti171 : TI Tryd.prog 171 (.func #[28, 3] #[28] false) (.nilFunc) 1 8 := ⟨Tryd.underlying171, by kernel_rfl⟩
instance ti172 : TI Tryd.prog 172 (.func #[159, 3] #[159] false) (.nilFunc) 1 8 := ⟨Tryd.underlying172, by kernel_rfl⟩
instance ti173 : TI Tryd.prog 173 (.func #[] #[169] false) (.nilFunc) 1 8 := ⟨Tryd.underlying173, by kernel_rfl⟩
instance ti174 : TI Tryd.prog 174 (.func #[28, 28] #[28] false) (.nilFunc) 1 8 := ⟨Tryd.underlying174, by kernel_rfl⟩
instance ti175 : TI Tryd.prog 175 (.func #[159, 74] #[159] false) (.nilFunc) 1 8 := ⟨Tryd.underlying175, by kernel_rfl⟩
instance ti176 : TI Tryd.prog 176 (.func #[177] #[] false) (.nilFunc) 1 8 := ⟨Tryd.underlying176, by kernel_rfl⟩
instance ti177 : TI Tryd.prog 177 (.pointer 159) (.pointer none) 1 8 := ⟨Tryd.underlying177, by kernel_rfl⟩
instance ti178 : TI Tryd.prog 178 (.func #[74, 3] #[74] false) (.nilFunc) 1 8 := ⟨Tryd.underlying178, by kernel_rfl⟩
instance ti179 : TI Tryd.prog 179 (.array 25 3) (.agg #[.int .i64 0, .int .i64 0, .int .i64 0, .int .i64 0, .int .i64 0, .int .i64 0, .int .i64 0, .int .i64 0, .int .i64 0, .int .i64 0, .int .i64 0, .int .i64 0, .int .i64 0, .int .i64 0, .int .i64 0, .int .i64 0, .int .i64 0, .int .i64 0, .int .i64 0, .int .i64 0, .int .i64 0, .int .i64 0, .int .i64 0, .int .i64 0, .int .i64 0]) 25 200 := ⟨Tryd.underlying179, by kernel_rfl⟩
instance ti180 : TI Tryd.prog 180 (.array 5 74) (.agg #[.int .u64 0, .int .u64 0, .int .u64 0, .int .u64 0, .int .u64 0]) 5 40 := ⟨Tryd.underlying180, by kernel_rfl⟩
instance ti181 : TI Tryd.prog 181 (.func #[] #[9] false) (.nilFunc) 1 8 := ⟨Tryd.underlying181, by kernel_rfl⟩
instance ti182 : TI Tryd.prog 182 (.struct #[⟨ "_interface", 17, 0, false, "", "runtime", 0⟩, ⟨ "concrete", 17, 1, false, "", "runtime", 8⟩, ⟨ "asserted", 17, 2, false, "", "runtime", 16⟩, ⟨ "missingMethod", 9, 3, false, "", "runtime", 24⟩]) (.agg #[.pointer none, .pointer none, .pointer none, .string ⟨#[]⟩]) 4 40 := ⟨Tryd.underlying182, by kernel_rfl⟩
instance si182 : SI Tryd.prog #[⟨ "_interface", 17, 0, false, "", "runtime", 0⟩, ⟨ "concrete", 17, 1, false, "", "runtime", 8⟩, ⟨ "asserted", 17, 2, false, "", "runtime", 16⟩, ⟨ "missingMethod", 9, 3, false, "", "runtime", 24⟩] [(0, 1), (1, 1), (2, 1), (3, 1)] := ⟨fun w => by kernel_rfl⟩
instance ti183 : TI Tryd.prog 183 (.struct #[⟨ "_interface", 17, 0, false, "", "runtime", 0⟩, ⟨ "concrete", 17, 1, false, "", "runtime", 8⟩, ⟨ "asserted", 17, 2, false, "", "runtime", 16⟩, ⟨ "missingMethod", 9, 3, false, "", "runtime", 24⟩]) (.agg #[.pointer none, .pointer none, .pointer none, .string ⟨#[]⟩]) 4 40 := ⟨Tryd.underlying183, by kernel_rfl⟩
instance ti184 : TI Tryd.prog 184 (.array 0 16) (.agg #[]) 0 0 := ⟨Tryd.underlying184, by kernel_rfl⟩
instance ti185 : TI Tryd.prog 185 (.struct #[⟨ "_", 184, 0, false, "", "runtime", 0⟩]) (.agg #[]) 0 0 := ⟨Tryd.underlying185, by kernel_rfl⟩
instance si185 : SI Tryd.prog #[⟨ "_", 184, 0, false, "", "runtime", 0⟩] [(0, 0)] := ⟨fun w => by kernel_rfl⟩
instance ti186 : TI Tryd.prog 186 (.struct #[⟨ "_", 184, 0, false, "", "runtime", 0⟩]) (.agg #[]) 0 0 := ⟨Tryd.underlying186, by kernel_rfl⟩
instance ti187 : TI Tryd.prog 187 (.int .u8) (.int .u8 0) 1 1 := ⟨Tryd.underlying187, by kernel_rfl⟩
instance ti188 : TI Tryd.prog 188 (.int .u8) (.int .u8 0) 1 1 := ⟨Tryd.underlying188, by kernel_rfl⟩
instance ti189 : TI Tryd.prog 189 (.func #[195, 195] #[4] false) (.nilFunc) 1 8 := ⟨Tryd.underlying189, by kernel_rfl⟩
instance ti190 : TI Tryd.prog 190 (.pointer 5) (.pointer none) 1 8 := ⟨Tryd.underlying190, by kernel_rfl⟩
instance ti191 : TI Tryd.prog 191 (.int .i32) (.int .i32 0) 1 4 := ⟨Tryd.underlying191, by kernel_rfl⟩
instance ti192 : TI Tryd.prog 192 (.int .i32) (.int .i32 0) 1 4 := ⟨Tryd.underlying192, by kernel_rfl⟩
instance ti193 : TI Tryd.prog 193 (.struct #[⟨ "Size_", 12, 0, false, "", "", 0⟩, ⟨ "PtrBytes", 12, 1, false, "", "", 8⟩, ⟨ "Hash", 28, 2, false, "", "", 16⟩, ⟨ "TFlag", 187, 3, false, "", "", 20⟩, ⟨ "Align_", 5, 4, false, "", "", 21⟩, ⟨ "FieldAlign_", 5, 5, false, "", "", 22⟩, ⟨ "Kind_", 188, 6, false, "", "", 23⟩, ⟨ "Equal", 189, 7, false, "", "", 24⟩, ⟨ "GCData", 190, 8, false, "", "", 32⟩, ⟨ "Str", 191, 9, false, "", "", 40⟩, ⟨ "PtrToThis", 192, 10, false, "", "", 44⟩]) (.agg #[.int .u64 0, .int .u64 0, .int .u32 0, .int .u8 0, .int .u8 0, .int .u8 0, .int .u8 0, .nilFunc, .pointer none, .int .i32 0, .int .i32 0]) 11 48 := ⟨Tryd.underlying193, by kernel_rfl⟩
instance si193 : SI Tryd.prog #[⟨ "Size_", 12, 0, false, "", "", 0⟩, ⟨ "PtrBytes", 12, 1, false, "", "", 8⟩, ⟨ "Hash", 28, 2, false, "", "", 16⟩, ⟨ "TFlag", 187, 3, false, "", "", 20⟩, ⟨ "Align_", 5, 4, false, "", "", 21⟩, ⟨ "FieldAlign_", 5, 5, false, "", "", 22⟩, ⟨ "Kind_", 188, 6, false, "", "", 23⟩, ⟨ "Equal", 189, 7, false, "", "", 24⟩, ⟨ "GCData", 190, 8, false, "", "", 32⟩, ⟨ "Str", 191, 9, false, "", "", 40⟩, ⟨ "PtrToThis", 192, 10, false, "", "", 44⟩] [(0, 1), (1, 1), (2, 1), (3, 1), (4, 1), (5, 1), (6, 1), (7, 1), (8, 1), (9, 1), (10, 1)] := ⟨fun w => by kernel_rfl⟩
instance ti194 : TI Tryd.prog 194 (.struct #[⟨ "Size_", 12, 0, false, "", "", 0⟩, ⟨ "PtrBytes", 12, 1, false, "", "", 8⟩, ⟨ "Hash", 28, 2, false, "", "", 16⟩, ⟨ "TFlag", 187, 3, false, "", "", 20⟩, ⟨ "Align_", 5, 4, false, "", "", 21⟩, ⟨ "FieldAlign_", 5, 5, false, "", "", 22⟩, ⟨ "Kind_", 188, 6, false, "", "", 23⟩, ⟨ "Equal", 189, 7, false, "", "", 24⟩, ⟨ "GCData", 190, 8, false, "", "", 32⟩, ⟨ "Str", 191, 9, false, "", "", 40⟩, ⟨ "PtrToThis", 192, 10, false, "", "", 44⟩]) (.agg #[.int .u64 0, .int .u64 0, .int .u32 0, .int .u8 0, .int .u8 0, .int .u8 0, .int .u8 0, .nilFunc, .pointer none, .int .i32 0, .int .i32 0]) 11 48 := ⟨Tryd.underlying194, by kernel_rfl⟩
instance ti195 : TI Tryd.prog 195 (.unsafePointer) (.pointer none) 1 8 := ⟨Tryd.underlying195, by kernel_rfl⟩
instance fo7_0 : FO Tryd.prog 7 0 0 1 false := ⟨_, _, _, _, _, Tryd.underlying7, rfl, ti2, rfl, rfl, by decide⟩
instance fo7_1 : FO Tryd.prog 7 1 1 1 false := ⟨_, _, _, _, _, Tryd.underlying7, rfl, ti3, rfl, rfl, by decide⟩
instance fo7_2 : FO Tryd.prog 7 2 2 1 false := ⟨_, _, _, _, _, Tryd.underlying7, rfl, ti4, rfl, rfl, by decide⟩
instance fo7_3 : FO Tryd.prog 7 3 3 1 false := ⟨_, _, _, _, _, Tryd.underlying7, rfl, ti6, rfl, rfl, by decide⟩
instance fo8_0 : FO Tryd.prog 8 0 0 1 false := ⟨_, _, _, _, _, Tryd.underlying8, rfl, ti2, rfl, rfl, by decide⟩
instance fo8_1 : FO Tryd.prog 8 1 1 1 false := ⟨_, _, _, _, _, Tryd.underlying8, rfl, ti3, rfl, rfl, by decide⟩
instance fo8_2 : FO Tryd.prog 8 2 2 1 false := ⟨_, _, _, _, _, Tryd.underlying8, rfl, ti4, rfl, rfl, by decide⟩
instance fo8_3 : FO Tryd.prog 8 3 3 1 false := ⟨_, _, _, _, _, Tryd.underlying8, rfl, ti6, rfl, rfl, by decide⟩
instance fo13_0 : FO Tryd.prog 13 0 0 1 false := ⟨_, _, _, _, _, Tryd.underlying13, rfl, ti9, rfl, rfl, by decide⟩
instance fo13_1 : FO Tryd.prog 13 1 1 1 false := ⟨_, _, _, _, _, Tryd.underlying13, rfl, ti12, rfl, rfl, by decide⟩
instance fo14_0 : FO Tryd.prog 14 0 0 1 false := ⟨_, _, _, _, _, Tryd.underlying14, rfl, ti9, rfl, rfl, by decide⟩
instance fo14_1 : FO Tryd.prog 14 1 1 1 false := ⟨_, _, _, _, _, Tryd.underlying14, rfl, ti12, rfl, rfl, by decide⟩
instance fo18_0 : FO Tryd.prog 18 0 0 1 false := ⟨_, _, _, _, _, Tryd.underlying18, rfl, ti17, rfl, rfl, by decide⟩
instance fo19_0 : FO Tryd.prog 19 0 0 1 false := ⟨_, _, _, _, _, Tryd.underlying19, rfl, ti17, rfl, rfl, by decide⟩
instance fo24_0 : FO Tryd.prog 24 0 0 1 false := ⟨_, _, _, _, _, Tryd.underlying24, rfl, ti5, rfl, rfl, by decide⟩
instance fo24_1 : FO Tryd.prog 24 1 1 1 false := ⟨_, _, _, _, _, Tryd.underlying24, rfl, ti22, rfl, rfl, by decide⟩
instance fo24_2 : FO Tryd.prog 24 2 2 1 false := ⟨_, _, _, _, _, Tryd.underlying24, rfl, ti23, rfl, rfl, by decide⟩
instance fo25_0 : FO Tryd.prog 25 0 0 1 false := ⟨_, _, _, _, _, Tryd.underlying25, rfl, ti5, rfl, rfl, by decide⟩
instance fo25_1 : FO Tryd.prog 25 1 1 1 false := ⟨_, _, _, _, _, Tryd.underlying25, rfl, ti22, rfl, rfl, by decide⟩
instance fo25_2 : FO Tryd.prog 25 2 2 1 false := ⟨_, _, _, _, _, Tryd.underlying25, rfl, ti23, rfl, rfl, by decide⟩
instance fo29_0 : FO Tryd.prog 29 0 0 1 false := ⟨_, _, _, _, _, Tryd.underlying29, rfl, ti28, rfl, rfl, by decide⟩
instance fo29_1 : FO Tryd.prog 29 1 1 1 false := ⟨_, _, _, _, _, Tryd.underlying29, rfl, ti3, rfl, rfl, by decide⟩
instance fo29_2 : FO Tryd.prog 29 2 2 1 false := ⟨_, _, _, _, _, Tryd.underlying29, rfl, ti3, rfl, rfl, by decide⟩
instance fo29_3 : FO Tryd.prog 29 3 3 1 false := ⟨_, _, _, _, _, Tryd.underlying29, rfl, ti3, rfl, rfl, by decide⟩
instance fo30_0 : FO Tryd.prog 30 0 0 1 false := ⟨_, _, _, _, _, Tryd.underlying30, rfl, ti28, rfl, rfl, by decide⟩
instance fo30_1 : FO Tryd.prog 30 1 1 1 false := ⟨_, _, _, _, _, Tryd.underlying30, rfl, ti3, rfl, rfl, by decide⟩
instance fo30_2 : FO Tryd.prog 30 2 2 1 false := ⟨_, _, _, _, _, Tryd.underlying30, rfl, ti3, rfl, rfl, by decide⟩
instance fo30_3 : FO Tryd.prog 30 3 3 1 false := ⟨_, _, _, _, _, Tryd.underlying30, rfl, ti3, rfl, rfl, by decide⟩
instance fo57_0 : FO Tryd.prog 57 0 0 1 false := ⟨_, _, _, _, _, Tryd.underlying57, rfl, ti22, rfl, rfl, by decide⟩
instance fo57_1 : FO Tryd.prog 57 1 1 1 false := ⟨_, _, _, _, _, Tryd.underlying57, rfl, ti22, rfl, rfl, by decide⟩
instance fo58_0 : FO Tryd.prog 58 0 0 1 false := ⟨_, _, _, _, _, Tryd.underlying58, rfl, ti22, rfl, rfl, by decide⟩
instance fo58_1 : FO Tryd.prog 58 1 1 1 false := ⟨_, _, _, _, _, Tryd.underlying58, rfl, ti22, rfl, rfl, by decide⟩
instance fo59_0 : FO Tryd.prog 59 0 0 1 false := ⟨_, _, _, _, _, Tryd.underlying59, rfl, ti28, rfl, rfl, by decide⟩
instance fo59_1 : FO Tryd.prog 59 1 1 1 false := ⟨_, _, _, _, _, Tryd.underlying59, rfl, ti22, rfl, rfl, by decide⟩
instance fo60_0 : FO Tryd.prog 60 0 0 1 false := ⟨_, _, _, _, _, Tryd.underlying60, rfl, ti28, rfl, rfl, by decide⟩
instance fo60_1 : FO Tryd.prog 60 1 1 1 false := ⟨_, _, _, _, _, Tryd.underlying60, rfl, ti22, rfl, rfl, by decide⟩
instance fo61_0 : FO Tryd.prog 61 0 0 1 false := ⟨_, _, _, _, _, Tryd.underlying61, rfl, ti28, rfl, rfl, by decide⟩
instance fo61_1 : FO Tryd.prog 61 1 1 1 false := ⟨_, _, _, _, _, Tryd.underlying61, rfl, ti3, rfl, rfl, by decide⟩
instance fo61_2 : FO Tryd.prog 61 2 2 1 false := ⟨_, _, _, _, _, Tryd.underlying61, rfl, ti3, rfl, rfl, by decide⟩
instance fo61_3 : FO Tryd.prog 61 3 3 1 false := ⟨_, _, _, _, _, Tryd.underlying61, rfl, ti3, rfl, rfl, by decide⟩
instance fo61_4 : FO Tryd.prog 61 4 4 1 false := ⟨_, _, _, _, _, Tryd.underlying61, rfl, ti3, rfl, rfl, by decide⟩
instance fo61_5 : FO Tryd.prog 61 5 5 1 false := ⟨_, _, _, _, _, Tryd.underlying61, rfl, ti3, rfl, rfl, by decide⟩
instance fo62_0 : FO Tryd.prog 62 0 0 1 false := ⟨_, _, _, _, _, Tryd.underlying62, rfl, ti28, rfl, rfl, by decide⟩
instance fo62_1 : FO Tryd.prog 62 1 1 1 false := ⟨_, _, _, _, _, Tryd.underlying62, rfl, ti3, rfl, rfl, by decide⟩
instance fo62_2 : FO Tryd.prog 62 2 2 1 false := ⟨_, _, _, _, _, Tryd.underlying62, rfl, ti3, rfl, rfl, by decide⟩
instance fo62_3 : FO Tryd.prog 62 3 3 1 false := ⟨_, _, _, _, _, Tryd.underlying62, rfl, ti3, rfl, rfl, by decide⟩
instance fo62_4 : FO Tryd.prog 62 4 4 1 false := ⟨_, _, _, _, _, Tryd.underlying62, rfl, ti3, rfl, rfl, by decide⟩
instance fo62_5 : FO Tryd.prog 62 5 5 1 false := ⟨_, _, _, _, _, Tryd.underlying62, rfl, ti3, rfl, rfl, by decide⟩
instance fo85_0 : FO Tryd.prog 85 0 0 4 true := ⟨_, _, _, _, _, Tryd.underlying85, rfl, ti30, rfl, rfl, by decide⟩
instance fo85_1 : FO Tryd.prog 85 1 4 1 false := ⟨_, _, _, _, _, Tryd.underlying85, rfl, ti22, rfl, rfl, by decide⟩
instance fo85_2 : FO Tryd.prog 85 2 5 1 false := ⟨_, _, _, _, _, Tryd.underlying85, rfl, ti23, rfl, rfl, by decide⟩
instance fo85_3 : FO Tryd.prog 85 3 6 1 false := ⟨_, _, _, _, _, Tryd.underlying85, rfl, ti3, rfl, rfl, by decide⟩
instance fo85_4 : FO Tryd.prog 85 4 7 1 false := ⟨_, _, _, _, _, Tryd.underlying85, rfl, ti23, rfl, rfl, by decide⟩
instance fo85_5 : FO Tryd.prog 85 5 8 1 false := ⟨_, _, _, _, _, Tryd.underlying85, rfl, ti3, rfl, rfl, by decide⟩
instance fo86_0 : FO Tryd.prog 86 0 0 4 true := ⟨_, _, _, _, _, Tryd.underlying86, rfl, ti30, rfl, rfl, by decide⟩
instance fo86_1 : FO Tryd.prog 86 1 4 1 false := ⟨_, _, _, _, _, Tryd.underlying86, rfl, ti22, rfl, rfl, by decide⟩
instance fo86_2 : FO Tryd.prog 86 2 5 1 false := ⟨_, _, _, _, _, Tryd.underlying86, rfl, ti23, rfl, rfl, by decide⟩
instance fo86_3 : FO Tryd.prog 86 3 6 1 false := ⟨_, _, _, _, _, Tryd.underlying86, rfl, ti3, rfl, rfl, by decide⟩
instance fo86_4 : FO Tryd.prog 86 4 7 1 false := ⟨_, _, _, _, _, Tryd.underlying86, rfl, ti23, rfl, rfl, by decide⟩
instance fo86_5 : FO Tryd.prog 86 5 8 1 false := ⟨_, _, _, _, _, Tryd.underlying86, rfl, ti3, rfl, rfl, by decide⟩
instance fo126_0 : FO Tryd.prog 126 0 0 1 false := ⟨_, _, _, _, _, Tryd.underlying126, rfl, ti3, rfl, rfl, by decide⟩
instance fo126_1 : FO Tryd.prog 126 1 1 1 false := ⟨_, _, _, _, _, Tryd.underlying126, rfl, ti3, rfl, rfl, by decide⟩
instance fo127_0 : FO Tryd.prog 127 0 0 1 false := ⟨_, _, _, _, _, Tryd.underlying127, rfl, ti3, rfl, rfl, by decide⟩
instance fo127_1 : FO Tryd.prog 127 1 1 1 false := ⟨_, _, _, _, _, Tryd.underlying127, rfl, ti3, rfl, rfl, by decide⟩
instance fo156_0 : FO Tryd.prog 156 0 0 8 true := ⟨_, _, _, _, _, Tryd.underlying156, rfl, ti155, rfl, rfl, by decide⟩
instance fo156_1 : FO Tryd.prog 156 1 8 1 false := ⟨_, _, _, _, _, Tryd.underlying156, rfl, ti22, rfl, rfl, by decide⟩
instance fo156_2 : FO Tryd.prog 156 2 9 1 false := ⟨_, _, _, _, _, Tryd.underlying156, rfl, ti74, rfl, rfl, by decide⟩
instance fo157_0 : FO Tryd.prog 157 0 0 8 true := ⟨_, _, _, _, _, Tryd.underlying157, rfl, ti155, rfl, rfl, by decide⟩
instance fo157_1 : FO Tryd.prog 157 1 8 1 false := ⟨_, _, _, _, _, Tryd.underlying157, rfl, ti22, rfl, rfl, by decide⟩
instance fo157_2 : FO Tryd.prog 157 2 9 1 false := ⟨_, _, _, _, _, Tryd.underlying157, rfl, ti74, rfl, rfl, by decide⟩
instance fo160_0 : FO Tryd.prog 160 0 0 25 true := ⟨_, _, _, _, _, Tryd.underlying160, rfl, ti159, rfl, rfl, by decide⟩
instance fo160_1 : FO Tryd.prog 160 1 25 1 false := ⟨_, _, _, _, _, Tryd.underlying160, rfl, ti22, rfl, rfl, by decide⟩
instance fo161_0 : FO Tryd.prog 161 0 0 25 true := ⟨_, _, _, _, _, Tryd.underlying161, rfl, ti159, rfl, rfl, by decide⟩
instance fo161_1 : FO Tryd.prog 161 1 25 1 false := ⟨_, _, _, _, _, Tryd.underlying161, rfl, ti22, rfl, rfl, by decide⟩
instance fo182_0 : FO Tryd.prog 182 0 0 1 false := ⟨_, _, _, _, _, Tryd.underlying182, rfl, ti17, rfl, rfl, by decide⟩
instance fo182_1 : FO Tryd.prog 182 1 1 1 false := ⟨_, _, _, _, _, Tryd.underlying182, rfl, ti17, rfl, rfl, by decide⟩
instance fo182_2 : FO Tryd.prog 182 2 2 1 false := ⟨_, _, _, _, _, Tryd.underlying182, rfl, ti17, rfl, rfl, by decide⟩
instance fo182_3 : FO Tryd.prog 182 3 3 1 false := ⟨_, _, _, _, _, Tryd.underlying182, rfl, ti9, rfl, rfl, by decide⟩
instance fo183_0 : FO Tryd.prog 183 0 0 1 false := ⟨_, _, _, _, _, Tryd.underlying183, rfl, ti17, rfl, rfl, by decide⟩
instance fo183_1 : FO Tryd.prog 183 1 1 1 false := ⟨_, _, _, _, _, Tryd.underlying183, rfl, ti17, rfl, rfl, by decide⟩
instance fo183_2 : FO Tryd.prog 183 2 2 1 false := ⟨_, _, _, _, _, Tryd.underlying183, rfl, ti17, rfl, rfl, by decide⟩
instance fo183_3 : FO Tryd.prog 183 3 3 1 false := ⟨_, _, _, _, _, Tryd.underlying183, rfl, ti9, rfl, rfl, by decide⟩
instance fo193_0 : FO Tryd.prog 193 0 0 1 false := ⟨_, _, _, _, _, Tryd.underlying193, rfl, ti12, rfl, rfl, by decide⟩
instance fo193_1 : FO Tryd.prog 193 1 1 1 false := ⟨_, _, _, _, _, Tryd.underlying193, rfl, ti12, rfl, rfl, by decide⟩
instance fo193_2 : FO Tryd.prog 193 2 2 1 false := ⟨_, _, _, _, _, Tryd.underlying193, rfl, ti28, rfl, rfl, by decide⟩
instance fo193_3 : FO Tryd.prog 193 3 3 1 false := ⟨_, _, _, _, _, Tryd.underlying193, rfl, ti187, rfl, rfl, by decide⟩
instance fo193_4 : FO Tryd.prog 193 4 4 1 false := ⟨_, _, _, _, _, Tryd.underlying193, rfl, ti5, rfl, rfl, by decide⟩
instance fo193_5 : FO Tryd.prog 193 5 5 1 false := ⟨_, _, _, _, _, Tryd.underlying193, rfl, ti5, rfl, rfl, by decide⟩
instance fo193_6 : FO Tryd.prog 193 6 6 1 false := ⟨_, _, _, _, _, Tryd.underlying193, rfl, ti188, rfl, rfl, by decide⟩
instance fo193_7 : FO Tryd.prog 193 7 7 1 false := ⟨_, _, _, _, _, Tryd.underlying193, rfl, ti189, rfl, rfl, by decide⟩
instance fo193_8 : FO Tryd.prog 193 8 8 1 false := ⟨_, _, _, _, _, Tryd.underlying193, rfl, ti190, rfl, rfl, by decide⟩
instance fo193_9 : FO Tryd.prog 193 9 9 1 false := ⟨_, _, _, _, _, Tryd.underlying193, rfl, ti191, rfl, rfl, by decide⟩
instance fo193_10 : FO Tryd.prog 193 10 10 1 false := ⟨_, _, _, _, _, Tryd.underlying193, rfl, ti192, rfl, rfl, by decide⟩
instance fo194_0 : FO Tryd.prog 194 0 0 1 false := ⟨_, _, _, _, _, Tryd.underlying194, rfl, ti12, rfl, rfl, by decide⟩
instance fo194_1 : FO Tryd.prog 194 1 1 1 false := ⟨_, _, _, _, _, Tryd.underlying194, rfl, ti12, rfl, rfl, by decide⟩
instance fo194_2 : FO Tryd.prog 194 2 2 1 false := ⟨_, _, _, _, _, Tryd.underlying194, rfl, ti28, rfl, rfl, by decide⟩
instance fo194_3 : FO Tryd.prog 194 3 3 1 false := ⟨_, _, _, _, _, Tryd.underlying194, rfl, ti187, rfl, rfl, by decide⟩
instance fo194_4 : FO Tryd.prog 194 4 4 1 false := ⟨_, _, _, _, _, Tryd.underlying194, rfl, ti5, rfl, rfl, by decide⟩
instance fo194_5 : FO Tryd.prog 194 5 5 1 false := ⟨_, _, _, _, _, Tryd.underlying194, rfl, ti5, rfl, rfl, by decide⟩
instance fo194_6 : FO Tryd.prog 194 6 6 1 false := ⟨_, _, _, _, _, Tryd.underlying194, rfl, ti188, rfl, rfl, by decide⟩
instance fo194_7 : FO Tryd.prog 194 7 7 1 false := ⟨_, _, _, _, _, Tryd.underlying194, rfl, ti189, rfl, rfl, by decide⟩
instance fo194_8 : FO Tryd.prog 194 8 8 1 false := ⟨_, _, _, _, _, Tryd.underlying194, rfl, ti190, rfl, rfl, by decide⟩
instance fo194_9 : FO Tryd.prog 194 9 9 1 false := ⟨_, _, _, _, _, Tryd.underlying194, rfl, ti191, rfl, rfl, by decide⟩
instance fo194_10 : FO Tryd.prog 194 10 10 1 false := ⟨_, _, _, _, _, Tryd.underlying194, rfl, ti192, rfl, rfl, by decide⟩
theorem eqs7 {a0 b0 : Int} {a1 b1 : Int} {a2 b2 : Bool} {a3 b3 : Int} : EqS Tryd.prog 7 [.int .i64 a0, .int .i64 a1, .bool a2, .int .u8 a3] [.int .i64 b0, .int .i64 b1, .bool b2, .int .u8 b3] (a0 = b0 ∧ (a1 = b1 ∧ (a2 = b2 ∧ (a3 = b3 ∧ True)))) := eqS_of _ Tryd.underlying7 (by kernel_rfl) (by kernel_rfl) (eqF_int (by decide) rfl rfl (eqF_int (by decide) rfl rfl (eqF_bool (by decide) rfl rfl (eqF_int (by decide) rfl rfl eqF_nil))))
theorem eqs8 {a0 b0 : Int} {a1 b1 : Int} {a2 b2 : Bool} {a3 b3 : Int} : EqS Tryd.prog 8 [.int .i64 a0, .int .i64 a1, .bool a2, .int .u8 a3] [.int .i64 b0, .int .i64 b1, .bool b2, .int .u8 b3] (a0 = b0 ∧ (a1 = b1 ∧ (a2 = b2 ∧ (a3 = b3 ∧ True)))) := eqS_of _ Tryd.underlying8 (by kernel_rfl) (by kernel_rfl) (eqF_int (by decide) rfl rfl (eqF_int (by decide) rfl rfl (eqF_bool (by decide) rfl rfl (eqF_int (by decide) rfl rfl eqF_nil))))
theorem eqs29 {a0 b0 : Int} {a1 b1 : Int} {a2 b2 : Int} {a3 b3 : Int} : EqS Tryd.prog 29 [.int .u32 a0, .int .i64 a1, .int .i64 a2, .int .i64 a3] [.int .u32 b0, .int .i64 b1, .int .i64 b2, .int .i64 b3] (a0 = b0 ∧ (a1 = b1 ∧ (a2 = b2 ∧ (a3 = b3 ∧ True)))) := eqS_of _ Tryd.underlying29 (by kernel_rfl) (by kernel_rfl) (eqF_int (by decide) rfl rfl (eqF_int (by decide) rfl rfl (eqF_int (by decide) rfl rfl (eqF_int (by decide) rfl rfl eqF_nil))))
theorem eqs30 {a0 b0 : Int} {a1 b1 : Int} {a2 b2 : Int} {a3 b3 : Int} : EqS Tryd.prog 30 [.int .u32 a0, .int .i64 a1, .int .i64 a2, .int .i64 a3] [.int .u32 b0, .int .i64 b1, .int .i64 b2, .int .i64 b3] (a0 = b0 ∧ (a1 = b1 ∧ (a2 = b2 ∧ (a3 = b3 ∧ True)))) := eqS_of _ Tryd.underlying30 (by kernel_rfl) (by kernel_rfl) (eqF_int (by decide) rfl rfl (eqF_int (by decide) rfl rfl (eqF_int (by decide) rfl rfl (eqF_int (by decide) rfl rfl eqF_nil))))
theorem eqs61 {a0 b0 : Int} {a1 b1 : Int} {a2 b2 : Int} {a3 b3 : Int} {a4 b4 : Int} {a5 b5 : Int} : EqS Tryd.prog 61 [.int .u32 a0, .int .i64 a1, .int .i64 a2, .int .i64 a3, .int .i64 a4, .int .i64 a5] [.int .u32 b0, .int .i64 b1, .int .i64 b2, .int .i64 b3, .int .i64 b4, .int .i64 b5] (a0 = b0 ∧ (a1 = b1 ∧ (a2 = b2 ∧ (a3 = b3 ∧ (a4 = b4 ∧ (a5 = b5 ∧ True)))))) := eqS_of _ Tryd.underlying61 (by kernel_rfl) (by kernel_rfl) (eqF_int (by decide) rfl rfl (eqF_int (by decide) rfl rfl (eqF_int (by decide) rfl rfl (eqF_int (by decide) rfl rfl (eqF_int (by decide) rfl rfl (eqF_int (by decide) rfl rfl eqF_nil))))))
theorem eqs62 {a0 b0 : Int} {a1 b1 : Int} {a2 b2 : Int} {a3 b3 : Int} {a4 b4 : Int} {a5 b5 : Int} : EqS Tryd.prog 62 [.int .u32 a0, .int .i64 a1, .int .i64 a2, .int .i64 a3, .int .i64 a4, .int .i64 a5] [.int .u32 b0, .int .i64 b1, .int .i64 b2, .int .i64 b3, .int .i64 b4, .int .i64 b5] (a0 = b0 ∧ (a1 = b1 ∧ (a2 = b2 ∧ (a3 = b3 ∧ (a4 = b4 ∧ (a5 = b5 ∧ True)))))) := eqS_of _ Tryd.underlying62 (by kernel_rfl) (by kernel_rfl) (eqF_int (by decide) rfl rfl (eqF_int (by decide) rfl rfl (eqF_int (by decide) rfl rfl (eqF_int (by decide) rfl rfl (eqF_int (by decide) rfl rfl (eqF_int (by decide) rfl rfl eqF_nil))))))
theorem eqs126 {a0 b0 : Int} {a1 b1 : Int} : EqS Tryd.prog 126 [.int .i64 a0, .int .i64 a1] [.int .i64 b0, .int .i64 b1] (a0 = b0 ∧ (a1 = b1 ∧ True)) := eqS_of _ Tryd.underlying126 (by kernel_rfl) (by kernel_rfl) (eqF_int (by decide) rfl rfl (eqF_int (by decide) rfl rfl eqF_nil))
theorem eqs127 {a0 b0 : Int} {a1 b1 : Int} : EqS Tryd.prog 127 [.int .i64 a0, .int .i64 a1] [.int .i64 b0, .int .i64 b1] (a0 = b0 ∧ (a1 = b1 ∧ True)) := eqS_of _ Tryd.underlying127 (by kernel_rfl) (by kernel_rfl) (eqF_int (by decide) rfl rfl (eqF_int (by decide) rfl rfl eqF_nil))
end Go.Proofs.YtbjnjedfoiedeaaDoor
set_option linter.unusedVariables false
set_option linter.unusedSimpArgs false
namespace Go.Proofs.YtbjnjedfoiedeaaDoor
open Go Go.Eng
theorem bytesClone_spec {G : World} {M : Mem} {L : Own} {A : Option Addr} {n c : Nat} {bs : List UInt8} (h : Bytes M A n c bs) (hn : n ≤ 140737488355328) :
    Con Tryd.prog 44 #[.slice A n c] G M L (fun v M' L' => L' = L ∧ ∃ A' c', v = .slice A' n c' ∧ Bytes M' A' n c' bs) noPanic := by
  refine enter (args := [_]) (fn := Tryd.f44) ⟨Tryd.func44, rfl, by kernel_rfl, by kernel_rfl⟩ 8 rfl ?_
  refine x_seq (x_region ?_)
  refine tl_y rfl (y_assign rfl) ?_
  refine tl_nil (.then_normal ?_)
  refine x_seq (x_seq (x_region ?_))
  refine tl_y rfl (y_move (v := .slice _ _ _) rfl) ?_
  refine tl_y rfl (y_eqNilSlice rfl rfl) ?_
  refine tl_nil (.then_normal ?_)
  refine x_condb rfl (fun hc1 => ?_) (fun hc1 => ?_)
  ·
    obtain rfl : A = none := by simpa using hc1
    have h0 : n = 0 := by
      rcases Nat.eq_zero_or_pos n with h0 | h0
      · exact h0
      · obtain ⟨b, o, e, _⟩ := h.addr h0; cases e
    subst h0
    have hb : bs = [] := List.eq_nil_of_length_eq_zero h.size
    subst hb
    refine x_seq (x_region ?_)
    refine tl_y rfl (y_assign rfl) ?_
    refine tl_nil (.then_normal ?_)
    refine x_ret (.then_ret (ret1 rfl rfl (Le.refl _) ⟨rfl, none, 0, rfl, Row.nil _ _⟩))
  ·
    refine x_skip (.then_normal ?_)
    refine x_seq (x_region ?_)
    refine tl_e rfl (e_buildSlice0 (fun b1 => ?_))
    refine tl_y rfl (y_move (v := .slice _ _ _) rfl) ?_
    refine tl_e rfl (e_append1 (by decide) rfl rfl OwnRow.made00 (.row h) (all_one_bv bs) (by omega) (by omega) (fun A' cap' E hE => ?_))
    rw [Nat.zero_add, List.nil_append] at hE; rw [Nat.zero_add]
    refine tl_y rfl (y_assign (v := .slice _ _ _) rfl) ?_
    refine tl_nil (.then_normal ?_)
    refine .sub (F' := [(2, _)]) (.cons rfl .nil) ?_
    refine x_ret (.pubRow hE fun M' hle hr => ret1 rfl rfl hle ⟨rfl, _, _, rfl, hr⟩)
abbrev Ints (M : Mem) (A : Option Addr) (n cap : Nat) (xs : List Int) : Prop := Row M 1 A n cap (xs.map (.int .i64))
theorem ints_one (xs : List Int) : (xs.map (Value.int .i64)).all one = true := by simp [one, Value.oneCell']
theorem Ints.size {M : Mem} {A : Option Addr} {n cap : Nat} {xs : List Int} (h : Ints M A n cap xs) : xs.length = n := by have := h.len; simpa using this
def noneOf (xs : List Int) (x : Int) (k : Nat) : Prop := ∀ j, j < k → xs.getD j 0 ≠ x
theorem noneOf_succ {xs : List Int} {x : Int} {k : Nat} (h : noneOf xs x k) (hk : ¬ x = xs.getD k 0) : noneOf xs x (k + 1) := fun j hj => by
  rcases Nat.lt_or_ge j k with hlt | hge
  · exact h j hlt
  · obtain rfl : j = k := by omega
    exact Ne.symm hk
theorem indexInts_spec {G : World} {M : Mem} {L : Own} {A : Option Addr} {n c : Nat} {xs : List Int} (h : Ints M A n c xs) (x : Int) :
    Con Tryd.prog 125 #[.slice A n c, .int .i64 x] G M L (fun v M' L' => M' = M ∧ L' = L ∧ ∃ r : Int, v = .int .i64 r ∧ (0 ≤ r ↔ x ∈ xs)) noPanic := by
  have hs := h.size
  have hmx := h.max
  have hle := h.le
  refine enter (args := [_, _]) (fn := Tryd.f125) ⟨Tryd.func125, rfl, by kernel_rfl, by kernel_rfl⟩ 19 rfl ?_
  refine x_seq (x_region ?_)
  refine tl_y rfl (y_assign rfl) ?_
  refine tl_nil (.then_normal ?_)
  refine x_seq (x_seq (x_region ?_))
  refine tl_y rfl (y_move (v := .slice _ _ _) rfl) ?_
  refine tl_y rfl (y_len rfl) ?_
  refine tl_y rfl (y_move rfl) ?_
  refine tl_nil (.then_normal ?_)
  refine x_block ?_
  refine x_loop (I := fun m' F D M1 L1 => ∃ k : Nat, m' = n - k ∧ k ≤ n ∧ noneOf xs x k ∧ D = [] ∧ M1 = M ∧ L1 = L ∧ F = [(0, .slice A n c), (1, .int .i64 x), (4, .int .i64 0), (7, .int .i64 n), (8, .int .i64 k)]) (n) (F0 := [(0, _), (1, _), (4, _), (7, _), (8, _)]) ?_ (.cons rfl (.cons rfl (.cons rfl (.cons rfl (.cons rfl .nil))))) ?_  -- slots [0, 1, 4, 7, 8], written [4, 8]
  · exact ⟨0, rfl, by omega, (fun j h => by omega), rfl, rfl, rfl, rfl⟩
  rintro m _ _ M1 L1 ⟨k, rfl, hk, hno, rfl, rfl, rfl, rfl⟩
  refine x_seq (x_region ?_)
  refine tl_y rfl (y_lss rfl rfl) ?_
  refine tl_nil (.then_normal ?_)
  refine x_seq ?_
  refine x_cond rfl (fun hc1 => ?_) (fun hc1 => ?_)
  ·
    have hkn : k < n := by omega
    obtain ⟨p, o, rfl, hca⟩ := h.addr (by omega)
    have hcell := hca L1 k (.int .i64 (xs.getD k 0)) (by simp [hs, hkn])
    refine x_skip (.then_normal ?_)
    refine x_seq ?_
    refine x_block ?_
    refine x_seq (x_region ?_)
    refine tl_y rfl (y_move (v := .int _ _) rfl) ?_
    refine tl_y rfl (y_assign (v := .int _ _) rfl) ?_
    refine tl_nil (.then_normal ?_)
    refine x_seq (x_region ?_)
    refine tl_y rfl (y_move (v := .int _ _) rfl) ?_
    refine tl_y rfl (y_move (v := .slice _ _ _) rfl) ?_
    refine tl_y rfl (y_move (v := .int _ _) rfl) ?_
    refine tl_y rfl (y_indexAddr rfl rfl (by omega)) ?_
    refine tl_y rfl (y_load rfl rfl (.at_ hcell (by omega))) ?_
    refine tl_y rfl (y_eql rfl rfl) ?_
    refine tl_nil (.then_normal ?_)
    refine .sub (F' := [(0, _), (1, _), (4, _), (5, _), (7, _), (8, _), (16, _)]) (.cons rfl (.cons rfl (.cons rfl (.cons rfl (.cons rfl (.cons rfl (.cons rfl .nil))))))) ?_
    refine x_cond rfl (fun hc2 => ?_) (fun hc2 => ?_)
    ·
      refine x_seq (x_region ?_)
      refine tl_y rfl (y_move (v := .int _ _) rfl) ?_
      refine tl_y rfl (y_assign (v := .int _ _) rfl) ?_
      refine tl_nil (.then_normal ?_)
      refine x_ret (.block_ret (.then_ret (.loop_ret (.block_ret (.then_ret (ret1 rfl rfl (Le.refl _) ⟨rfl, rfl, _, rfl, iff_of_true (by omega) (by rw [hc2, List.getD_eq_getElem?_getD, List.getElem?_eq_getElem (by omega)]; simp)⟩))))))
    ·
      refine x_skip (.block_normal (.then_normal ?_))
      refine x_region ?_
      refine tl_y rfl (y_addI rfl rfl (by omega)) ?_
      refine tl_y rfl (y_move (v := .int _ _) rfl) ?_
      refine tl_nil (.loop_next (m' := n - (k + 1)) (by omega) (F' := [(0, _), (1, _), (4, _), (7, _), (8, _)]) (.cons rfl (.cons rfl (.cons rfl (.cons rfl (.cons rfl .nil))))) ?_)
      exact ⟨k + 1, rfl, by omega, noneOf_succ hno hc2, rfl, rfl, rfl, rfl⟩
  ·
    refine x_exit (.then_exit (.loop_exit (.block_exit (.then_normal ?_))))
    refine .sub (F' := []) .nil ?_
    refine x_seq (x_region ?_)
    refine tl_y rfl (y_assign rfl) ?_
    refine tl_nil (.then_normal ?_)
    refine x_ret (ret1 rfl rfl (Le.refl _) ⟨rfl, rfl, _, rfl, iff_of_false (by omega) (fun hm => by obtain ⟨j, hj, he⟩ := List.getElem_of_mem hm; exact hno j (by omega) (by rw [List.getD_eq_getElem?_getD, List.getElem?_eq_getElem hj]; simpa using he))⟩)
theorem containsInts_spec {G : World} {M : Mem} {L : Own} {A : Option Addr} {n c : Nat} {xs : List Int} (h : Ints M A n c xs) (x : Int) :
    Con Tryd.prog 113 #[.slice A n c, .int .i64 x] G M L (fun v M' L' => M' = M ∧ L' = L ∧ v = .bool (decide (x ∈ xs))) noPanic := by
  refine enter (args := [_, _]) (fn := Tryd.f113) ⟨Tryd.func113, rfl, by kernel_rfl, by kernel_rfl⟩ 9 rfl ?_
  refine x_seq (x_region ?_)
  refine tl_y rfl (y_assign rfl) ?_
  refine tl_nil (.then_normal ?_)
  refine x_seq (x_region ?_)
  refine tl_y rfl (y_move (v := .slice _ _ _) rfl) ?_
  refine tl_y rfl (y_move (v := .int _ _) rfl) ?_
  refine tl_e rfl (e_call' rfl (indexInts_spec h x) ?_)
  rintro _ M1 L1 hM1 ⟨rfl, rfl, r, rfl, hr⟩
  refine tl_y rfl (y_geq rfl rfl) ?_
  refine tl_y rfl (y_assign (v := .bool _) rfl) ?_
  refine tl_nil (.then_normal ?_)
  refine .sub (F' := [(4, _)]) (.cons rfl .nil) ?_
  refine x_ret (ret1 rfl rfl (Le.refl _) ⟨rfl, rfl, by congr 1; exact decide_eq_decide.2 hr⟩)
end Go.Proofs.YtbjnjedfoiedeaaDoor
set_option linter.unusedVariables false
set_option linter.unusedSimpArgs false
set_option linter.constructorNameAsVariable false
namespace Go.Proofs.YtbjnjedfoiedeaaDoor
open Go Go.Eng
theorem src_in {M : Mem} {L : Own} {s n : Nat} {A : Option Addr} {vs : List Value} {p : Nat × Obj} (h : RowIn M L s A n vs) : Src M (p :: L) s A n vs := ⟨h.len, fun w hw h0 => by
  rcases Nat.eq_zero_or_pos n with h1 | h1
  · subst h1; simp at h0
  · obtain ⟨b, o, e, hc⟩ := h.addr h1
    exact ⟨_, e, fun j v hj => by rw [add_plain]; exact hc j v hj w ⟨hw.ro, fun q hq => hw.own q (List.mem_cons_of_mem _ hq)⟩⟩⟩
section
variable {G : World} {M : Mem} {L R : Own}
/-- A clone of what lies anywhere, owned. -/
theorem bytesClone_own {A : Option Addr} {n c : Nat} {bs : List UInt8} (h : RowIn M L 1 A n (bs.map bv)) (hn : n ≤ 140737488355328) :
    Con Tryd.prog 44 #[.slice A n c] G M L (fun v M' L' => M = M' ∧ ∃ A' c' E, v = .slice A' n c' ∧ OwnRow 5 1 A' n c' (bs.map bv) E ∧ L' = E ++ L) noPanic := by
  have hbl : bs.length = n := by have := h.len; simpa using this
  refine enter (args := [_]) (fn := Tryd.f44) ⟨Tryd.func44, rfl, by kernel_rfl, by kernel_rfl⟩ 8 rfl ?_
  refine x_seq (x_region ?_)
  refine tl_y rfl (y_assign rfl) ?_
  refine tl_nil (.then_normal ?_)
  refine x_seq (x_seq (x_region ?_))
  refine tl_y rfl (y_move (v := .slice _ _ _) rfl) ?_
  refine tl_y rfl (y_eqNilSlice rfl rfl) ?_
  refine tl_nil (.then_normal ?_)
  refine x_condb rfl (fun hc1 => ?_) (fun hc1 => ?_)
  ·
    obtain rfl : A = none := by simpa using hc1
    have h0 : n = 0 := by
      rcases Nat.eq_zero_or_pos n with h0 | h0
      · exact h0
      · obtain ⟨b, o, e, _⟩ := h.addr h0; cases e
    subst h0
    have hb : bs = [] := List.eq_nil_of_length_eq_zero hbl
    subst hb
    refine x_seq (x_region ?_)
    refine tl_y rfl (y_assign rfl) ?_
    refine tl_nil (.then_normal ?_)
    refine x_ret (.then_ret (ret1 rfl rfl (Le.refl _) ⟨rfl, none, 0, [], rfl, .nil, rfl⟩))
  ·
    refine x_skip (.then_normal ?_)
    refine x_seq (x_region ?_)
    refine tl_e rfl (e_buildSlice0 (fun b1 => ?_))
    refine tl_y rfl (y_move (v := .slice _ _ _) rfl) ?_
    refine tl_e rfl (e_append1 (by decide) rfl rfl OwnRow.made00 (src_in h) (all_one_bv bs) (by omega) (by omega) (fun A' cap' E hE => ?_))
    rw [Nat.zero_add, List.nil_append] at hE; rw [Nat.zero_add]
    refine tl_y rfl (y_assign (v := .slice _ _ _) rfl) ?_
    refine tl_nil (.then_normal ?_)
    refine .sub (F' := [(2, _)]) (.cons rfl .nil) ?_
    refine x_ret (ret1 rfl rfl (Le.refl _) ⟨rfl, _, _, E, rfl, hE, rfl⟩)
end
end Go.Proofs.YtbjnjedfoiedeaaDoor
