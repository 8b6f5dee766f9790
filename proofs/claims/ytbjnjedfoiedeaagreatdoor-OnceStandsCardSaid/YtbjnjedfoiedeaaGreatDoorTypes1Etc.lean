/-
Contracts of functions, each proved by a walk through its code.
-/
import Derived.Test.YtbjnjedfoiedeaaGreatDoorEngWEtc
import Derived.Test.YtbjnjedfoiedeaaGreatDoorProg
import Derived.Test.YtbjnjedfoiedeaaGreatDoorEngIEtc
set_option linter.unusedVariables false
namespace Go.Proofs.YtbjnjedfoiedeaaGreatDoor
open Go.Eng
theorem hmix : Tryz.prog.follows .mixedOrders = true := by kernel_rfl
instance ti0 : TI Tryz.prog 0 (.tuple #[]) (.tuple #[]) 1 0 := ⟨Tryz.underlying0, by kernel_rfl⟩
instance ti1 : TI Tryz.prog 1 (.func #[] #[] false) (.nilFunc) 1 8 := ⟨Tryz.underlying1, by kernel_rfl⟩
instance ti2 : TI Tryz.prog 2 (.int .i64) (.int .i64 0) 1 8 := ⟨Tryz.underlying2, by kernel_rfl⟩
instance ti3 : TI Tryz.prog 3 (.int .i64) (.int .i64 0) 1 8 := ⟨Tryz.underlying3, by kernel_rfl⟩
instance ti4 : TI Tryz.prog 4 (.bool) (.bool false) 1 1 := ⟨Tryz.underlying4, by kernel_rfl⟩
instance ti5 : TI Tryz.prog 5 (.int .u8) (.int .u8 0) 1 1 := ⟨Tryz.underlying5, by kernel_rfl⟩
instance ti6 : TI Tryz.prog 6 (.int .u8) (.int .u8 0) 1 1 := ⟨Tryz.underlying6, by kernel_rfl⟩
instance ti7 : TI Tryz.prog 7 (.struct #[⟨ "x", 2, 0, false, "", "runtime", 0⟩, ⟨ "y", 3, 1, false, "", "runtime", 8⟩, ⟨ "signed", 4, 2, false, "", "runtime", 16⟩, ⟨ "code", 6, 3, false, "", "runtime", 17⟩]) (.agg #[.int .i64 0, .int .i64 0, .bool false, .int .u8 0]) 4 24 := ⟨Tryz.underlying7, by kernel_rfl⟩
instance si7 : SI Tryz.prog #[⟨ "x", 2, 0, false, "", "runtime", 0⟩, ⟨ "y", 3, 1, false, "", "runtime", 8⟩, ⟨ "signed", 4, 2, false, "", "runtime", 16⟩, ⟨ "code", 6, 3, false, "", "runtime", 17⟩] [(0, 1), (1, 1), (2, 1), (3, 1)] := ⟨fun w => by kernel_rfl⟩
instance ti8 : TI Tryz.prog 8 (.struct #[⟨ "x", 2, 0, false, "", "runtime", 0⟩, ⟨ "y", 3, 1, false, "", "runtime", 8⟩, ⟨ "signed", 4, 2, false, "", "runtime", 16⟩, ⟨ "code", 6, 3, false, "", "runtime", 17⟩]) (.agg #[.int .i64 0, .int .i64 0, .bool false, .int .u8 0]) 4 24 := ⟨Tryz.underlying8, by kernel_rfl⟩
instance ti9 : TI Tryz.prog 9 (.string) (.string ⟨#[]⟩) 1 16 := ⟨Tryz.underlying9, by kernel_rfl⟩
instance ti10 : TI Tryz.prog 10 (.string) (.string ⟨#[]⟩) 1 16 := ⟨Tryz.underlying10, by kernel_rfl⟩
instance ti11 : TI Tryz.prog 11 (.string) (.string ⟨#[]⟩) 1 16 := ⟨Tryz.underlying11, by kernel_rfl⟩
instance ti12 : TI Tryz.prog 12 (.int .u64) (.int .u64 0) 1 8 := ⟨Tryz.underlying12, by kernel_rfl⟩
instance ti13 : TI Tryz.prog 13 (.struct #[⟨ "msg", 9, 0, false, "", "runtime", 0⟩, ⟨ "addr", 12, 1, false, "", "runtime", 16⟩]) (.agg #[.string ⟨#[]⟩, .int .u64 0]) 2 24 := ⟨Tryz.underlying13, by kernel_rfl⟩
instance si13 : SI Tryz.prog #[⟨ "msg", 9, 0, false, "", "runtime", 0⟩, ⟨ "addr", 12, 1, false, "", "runtime", 16⟩] [(0, 1), (1, 1)] := ⟨fun w => by kernel_rfl⟩
instance ti14 : TI Tryz.prog 14 (.struct #[⟨ "msg", 9, 0, false, "", "runtime", 0⟩, ⟨ "addr", 12, 1, false, "", "runtime", 16⟩]) (.agg #[.string ⟨#[]⟩, .int .u64 0]) 2 24 := ⟨Tryz.underlying14, by kernel_rfl⟩
instance ti15 : TI Tryz.prog 15 (.pointer 133) (.pointer none) 1 8 := ⟨Tryz.underlying15, by kernel_rfl⟩
instance ti16 : TI Tryz.prog 16 (.pointer 136) (.pointer none) 1 8 := ⟨Tryz.underlying16, by kernel_rfl⟩
instance ti17 : TI Tryz.prog 17 (.pointer 145) (.pointer none) 1 8 := ⟨Tryz.underlying17, by kernel_rfl⟩
instance ti18 : TI Tryz.prog 18 (.struct #[⟨ "typ", 17, 0, false, "", "internal/runtime/maps", 0⟩]) (.agg #[.pointer none]) 1 8 := ⟨Tryz.underlying18, by kernel_rfl⟩
instance si18 : SI Tryz.prog #[⟨ "typ", 17, 0, false, "", "internal/runtime/maps", 0⟩] [(0, 1)] := ⟨fun w => by kernel_rfl⟩
instance ti19 : TI Tryz.prog 19 (.struct #[⟨ "typ", 17, 0, false, "", "internal/runtime/maps", 0⟩]) (.agg #[.pointer none]) 1 8 := ⟨Tryz.underlying19, by kernel_rfl⟩
instance ti20 : TI Tryz.prog 20 (.interface #[]) (.nilIface) 1 16 := ⟨Tryz.underlying20, by kernel_rfl⟩
instance ti21 : TI Tryz.prog 21 (.int .i32) (.int .i32 0) 1 4 := ⟨Tryz.underlying21, by kernel_rfl⟩
instance ti22 : TI Tryz.prog 22 (.slice 5) (.slice none 0 0) 1 24 := ⟨Tryz.underlying22, by kernel_rfl⟩
instance ti23 : TI Tryz.prog 23 (.int .u32) (.int .u32 0) 1 4 := ⟨Tryz.underlying23, by kernel_rfl⟩
instance ti24 : TI Tryz.prog 24 (.struct #[⟨ "Q", 23, 0, false, "", "", 0⟩, ⟨ "Text", 22, 1, false, "", "", 8⟩]) (.agg #[.int .u32 0, .slice none 0 0]) 2 32 := ⟨Tryz.underlying24, by kernel_rfl⟩
instance si24 : SI Tryz.prog #[⟨ "Q", 23, 0, false, "", "", 0⟩, ⟨ "Text", 22, 1, false, "", "", 8⟩] [(0, 1), (1, 1)] := ⟨fun w => by kernel_rfl⟩
instance ti25 : TI Tryz.prog 25 (.struct #[⟨ "Q", 23, 0, false, "", "", 0⟩, ⟨ "Text", 22, 1, false, "", "", 8⟩]) (.agg #[.int .u32 0, .slice none 0 0]) 2 32 := ⟨Tryz.underlying25, by kernel_rfl⟩
instance ti26 : TI Tryz.prog 26 (.func #[] #[4] false) (.nilFunc) 1 8 := ⟨Tryz.underlying26, by kernel_rfl⟩
instance ti27 : TI Tryz.prog 27 (.int .u64) (.int .u64 0) 1 8 := ⟨Tryz.underlying27, by kernel_rfl⟩
instance ti28 : TI Tryz.prog 28 (.tuple #[27, 4]) (.tuple #[.int .u64 0, .bool false]) 1 0 := ⟨Tryz.underlying28, by kernel_rfl⟩
instance ti29 : TI Tryz.prog 29 (.func #[22] #[27, 4] false) (.nilFunc) 1 8 := ⟨Tryz.underlying29, by kernel_rfl⟩
instance ti30 : TI Tryz.prog 30 (.struct #[⟨ "Code", 23, 0, false, "", "", 0⟩, ⟨ "Kind", 3, 1, false, "", "", 8⟩, ⟨ "N", 3, 2, false, "", "", 16⟩, ⟨ "W", 3, 3, false, "", "", 24⟩, ⟨ "P", 3, 4, false, "", "", 32⟩, ⟨ "Shift", 3, 5, false, "", "", 40⟩]) (.agg #[.int .u32 0, .int .i64 0, .int .i64 0, .int .i64 0, .int .i64 0, .int .i64 0]) 6 48 := ⟨Tryz.underlying30, by kernel_rfl⟩
instance si30 : SI Tryz.prog #[⟨ "Code", 23, 0, false, "", "", 0⟩, ⟨ "Kind", 3, 1, false, "", "", 8⟩, ⟨ "N", 3, 2, false, "", "", 16⟩, ⟨ "W", 3, 3, false, "", "", 24⟩, ⟨ "P", 3, 4, false, "", "", 32⟩, ⟨ "Shift", 3, 5, false, "", "", 40⟩] [(0, 1), (1, 1), (2, 1), (3, 1), (4, 1), (5, 1)] := ⟨fun w => by kernel_rfl⟩
instance ti31 : TI Tryz.prog 31 (.struct #[⟨ "Code", 23, 0, false, "", "", 0⟩, ⟨ "Kind", 3, 1, false, "", "", 8⟩, ⟨ "N", 3, 2, false, "", "", 16⟩, ⟨ "W", 3, 3, false, "", "", 24⟩, ⟨ "P", 3, 4, false, "", "", 32⟩, ⟨ "Shift", 3, 5, false, "", "", 40⟩]) (.agg #[.int .u32 0, .int .i64 0, .int .i64 0, .int .i64 0, .int .i64 0, .int .i64 0]) 6 48 := ⟨Tryz.underlying31, by kernel_rfl⟩
instance ti32 : TI Tryz.prog 32 (.int .i64) (.int .i64 0) 1 8 := ⟨Tryz.underlying32, by kernel_rfl⟩
instance ti33 : TI Tryz.prog 33 (.tuple #[31, 32]) (.tuple #[.agg #[.int .u32 0, .int .i64 0, .int .i64 0, .int .i64 0, .int .i64 0, .int .i64 0], .int .i64 0]) 1 0 := ⟨Tryz.underlying33, by kernel_rfl⟩
instance ti34 : TI Tryz.prog 34 (.func #[23] #[31, 32] false) (.nilFunc) 1 8 := ⟨Tryz.underlying34, by kernel_rfl⟩
instance ti35 : TI Tryz.prog 35 (.func #[31] #[4] false) (.nilFunc) 1 8 := ⟨Tryz.underlying35, by kernel_rfl⟩
instance ti36 : TI Tryz.prog 36 (.tuple #[22, 32]) (.tuple #[.slice none 0 0, .int .i64 0]) 1 0 := ⟨Tryz.underlying36, by kernel_rfl⟩
instance ti37 : TI Tryz.prog 37 (.func #[22, 23, 22, 22] #[22, 32] false) (.nilFunc) 1 8 := ⟨Tryz.underlying37, by kernel_rfl⟩
instance ti38 : TI Tryz.prog 38 (.func #[22, 22] #[4] false) (.nilFunc) 1 8 := ⟨Tryz.underlying38, by kernel_rfl⟩
instance ti39 : TI Tryz.prog 39 (.func #[22, 25, 22] #[4] false) (.nilFunc) 1 8 := ⟨Tryz.underlying39, by kernel_rfl⟩
instance ti40 : TI Tryz.prog 40 (.struct #[⟨ "Name", 22, 0, false, "", "", 0⟩, ⟨ "Secret", 22, 1, false, "", "", 24⟩]) (.agg #[.slice none 0 0, .slice none 0 0]) 2 48 := ⟨Tryz.underlying40, by kernel_rfl⟩
instance si40 : SI Tryz.prog #[⟨ "Name", 22, 0, false, "", "", 0⟩, ⟨ "Secret", 22, 1, false, "", "", 24⟩] [(0, 1), (1, 1)] := ⟨fun w => by kernel_rfl⟩
instance ti41 : TI Tryz.prog 41 (.struct #[⟨ "Name", 22, 0, false, "", "", 0⟩, ⟨ "Secret", 22, 1, false, "", "", 24⟩]) (.agg #[.slice none 0 0, .slice none 0 0]) 2 48 := ⟨Tryz.underlying41, by kernel_rfl⟩
instance ti42 : TI Tryz.prog 42 (.func #[31, 41] #[4] false) (.nilFunc) 1 8 := ⟨Tryz.underlying42, by kernel_rfl⟩
instance ti43 : TI Tryz.prog 43 (.func #[31, 41, 23, 44] #[22] false) (.nilFunc) 1 8 := ⟨Tryz.underlying43, by kernel_rfl⟩
instance ti44 : TI Tryz.prog 44 (.int .u16) (.int .u16 0) 1 2 := ⟨Tryz.underlying44, by kernel_rfl⟩
instance ti45 : TI Tryz.prog 45 (.func #[31, 41, 23] #[22] false) (.nilFunc) 1 8 := ⟨Tryz.underlying45, by kernel_rfl⟩
instance ti46 : TI Tryz.prog 46 (.func #[31, 41, 23, 22] #[22] false) (.nilFunc) 1 8 := ⟨Tryz.underlying46, by kernel_rfl⟩
instance ti47 : TI Tryz.prog 47 (.func #[31] #[3] false) (.nilFunc) 1 8 := ⟨Tryz.underlying47, by kernel_rfl⟩
instance ti48 : TI Tryz.prog 48 (.func #[31, 41, 25] #[4] false) (.nilFunc) 1 8 := ⟨Tryz.underlying48, by kernel_rfl⟩
instance ti49 : TI Tryz.prog 49 (.tuple #[3, 3]) (.tuple #[.int .i64 0, .int .i64 0]) 1 0 := ⟨Tryz.underlying49, by kernel_rfl⟩
instance ti50 : TI Tryz.prog 50 (.func #[3] #[3, 3] false) (.nilFunc) 1 8 := ⟨Tryz.underlying50, by kernel_rfl⟩
instance ti51 : TI Tryz.prog 51 (.slice 3) (.slice none 0 0) 1 24 := ⟨Tryz.underlying51, by kernel_rfl⟩
instance ti52 : TI Tryz.prog 52 (.tuple #[3, 3, 3]) (.tuple #[.int .i64 0, .int .i64 0, .int .i64 0]) 1 0 := ⟨Tryz.underlying52, by kernel_rfl⟩
instance ti53 : TI Tryz.prog 53 (.func #[3, 3] #[3, 3, 3] false) (.nilFunc) 1 8 := ⟨Tryz.underlying53, by kernel_rfl⟩
instance ti54 : TI Tryz.prog 54 (.func #[22] #[31, 32] false) (.nilFunc) 1 8 := ⟨Tryz.underlying54, by kernel_rfl⟩
instance ti55 : TI Tryz.prog 55 (.func #[31, 22, 23, 22, 22] #[51] false) (.nilFunc) 1 8 := ⟨Tryz.underlying55, by kernel_rfl⟩
instance ti56 : TI Tryz.prog 56 (.func #[31, 58] #[22] false) (.nilFunc) 1 8 := ⟨Tryz.underlying56, by kernel_rfl⟩
instance ti57 : TI Tryz.prog 57 (.func #[31, 22, 23, 3, 3, 3, 22] #[22] false) (.nilFunc) 1 8 := ⟨Tryz.underlying57, by kernel_rfl⟩
instance ti58 : TI Tryz.prog 58 (.func #[3] #[22] false) (.nilFunc) 1 8 := ⟨Tryz.underlying58, by kernel_rfl⟩
instance ti59 : TI Tryz.prog 59 (.func #[3, 3, 22, 23, 44, 72] #[22] true) (.nilFunc) 1 8 := ⟨Tryz.underlying59, by kernel_rfl⟩
instance ti60 : TI Tryz.prog 60 (.func #[3, 3, 22, 23, 44, 22] #[22] false) (.nilFunc) 1 8 := ⟨Tryz.underlying60, by kernel_rfl⟩
instance ti61 : TI Tryz.prog 61 (.func #[72] #[22] true) (.nilFunc) 1 8 := ⟨Tryz.underlying61, by kernel_rfl⟩
instance ti62 : TI Tryz.prog 62 (.func #[27, 3] #[22] false) (.nilFunc) 1 8 := ⟨Tryz.underlying62, by kernel_rfl⟩
instance ti63 : TI Tryz.prog 63 (.func #[3, 3, 22] #[22] false) (.nilFunc) 1 8 := ⟨Tryz.underlying63, by kernel_rfl⟩
instance ti64 : TI Tryz.prog 64 (.func #[3] #[4] false) (.nilFunc) 1 8 := ⟨Tryz.underlying64, by kernel_rfl⟩
instance ti65 : TI Tryz.prog 65 (.func #[22, 3] #[51] false) (.nilFunc) 1 8 := ⟨Tryz.underlying65, by kernel_rfl⟩
instance ti66 : TI Tryz.prog 66 (.func #[71] #[22] false) (.nilFunc) 1 8 := ⟨Tryz.underlying66, by kernel_rfl⟩
instance ti67 : TI Tryz.prog 67 (.func #[31, 22, 3, 22] #[] false) (.nilFunc) 1 8 := ⟨Tryz.underlying67, by kernel_rfl⟩
instance ti68 : TI Tryz.prog 68 (.func #[4] #[] false) (.nilFunc) 1 8 := ⟨Tryz.underlying68, by kernel_rfl⟩
instance ti69 : TI Tryz.prog 69 (.func #[22] #[22] false) (.nilFunc) 1 8 := ⟨Tryz.underlying69, by kernel_rfl⟩
instance ti70 : TI Tryz.prog 70 (.func #[31, 22, 23, 3, 3, 22] #[22] false) (.nilFunc) 1 8 := ⟨Tryz.underlying70, by kernel_rfl⟩
instance ti71 : TI Tryz.prog 71 (.func #[] #[22] false) (.nilFunc) 1 8 := ⟨Tryz.underlying71, by kernel_rfl⟩
instance ti72 : TI Tryz.prog 72 (.slice 22) (.slice none 0 0) 1 24 := ⟨Tryz.underlying72, by kernel_rfl⟩
instance ti73 : TI Tryz.prog 73 (.func #[3, 3, 72] #[22] true) (.nilFunc) 1 8 := ⟨Tryz.underlying73, by kernel_rfl⟩
instance ti74 : TI Tryz.prog 74 (.func #[31, 22, 3, 22] #[4] false) (.nilFunc) 1 8 := ⟨Tryz.underlying74, by kernel_rfl⟩
instance ti75 : TI Tryz.prog 75 (.func #[81] #[31, 32] false) (.nilFunc) 1 8 := ⟨Tryz.underlying75, by kernel_rfl⟩
instance ti76 : TI Tryz.prog 76 (.struct #[⟨ "kind", 3, 0, false, "", "tearoff/sets", 0⟩, ⟨ "n", 3, 1, false, "", "tearoff/sets", 8⟩]) (.agg #[.int .i64 0, .int .i64 0]) 2 16 := ⟨Tryz.underlying76, by kernel_rfl⟩
instance si76 : SI Tryz.prog #[⟨ "kind", 3, 0, false, "", "tearoff/sets", 0⟩, ⟨ "n", 3, 1, false, "", "tearoff/sets", 8⟩] [(0, 1), (1, 1)] := ⟨fun w => by kernel_rfl⟩
instance ti77 : TI Tryz.prog 77 (.struct #[⟨ "kind", 3, 0, false, "", "tearoff/sets", 0⟩, ⟨ "n", 3, 1, false, "", "tearoff/sets", 8⟩]) (.agg #[.int .i64 0, .int .i64 0]) 2 16 := ⟨Tryz.underlying77, by kernel_rfl⟩
instance ti78 : TI Tryz.prog 78 (.tuple #[77, 3]) (.tuple #[.agg #[.int .i64 0, .int .i64 0], .int .i64 0]) 1 0 := ⟨Tryz.underlying78, by kernel_rfl⟩
instance ti79 : TI Tryz.prog 79 (.func #[23, 23, 3] #[77, 3] false) (.nilFunc) 1 8 := ⟨Tryz.underlying79, by kernel_rfl⟩
instance ti80 : TI Tryz.prog 80 (.array 4 3) (.agg #[.int .i64 0, .int .i64 0, .int .i64 0, .int .i64 0]) 4 32 := ⟨Tryz.underlying80, by kernel_rfl⟩
instance ti81 : TI Tryz.prog 81 (.func #[] #[31] false) (.nilFunc) 1 8 := ⟨Tryz.underlying81, by kernel_rfl⟩
instance ti82 : TI Tryz.prog 82 (.func #[22, 3] #[22] false) (.nilFunc) 1 8 := ⟨Tryz.underlying82, by kernel_rfl⟩
instance ti83 : TI Tryz.prog 83 (.func #[72, 22] #[22] false) (.nilFunc) 1 8 := ⟨Tryz.underlying83, by kernel_rfl⟩
instance ti84 : TI Tryz.prog 84 (.int .u64) (.int .u64 0) 1 8 := ⟨Tryz.underlying84, by kernel_rfl⟩
instance ti85 : TI Tryz.prog 85 (.func #[22, 3] #[3] false) (.nilFunc) 1 8 := ⟨Tryz.underlying85, by kernel_rfl⟩
instance ti86 : TI Tryz.prog 86 (.struct #[]) (.agg #[]) 0 0 := ⟨Tryz.underlying86, by kernel_rfl⟩
instance si86 : SI Tryz.prog #[] [] := ⟨fun w => by kernel_rfl⟩
instance ti87 : TI Tryz.prog 87 (.struct #[]) (.agg #[]) 0 0 := ⟨Tryz.underlying87, by kernel_rfl⟩
instance ti88 : TI Tryz.prog 88 (.struct #[]) (.agg #[]) 0 0 := ⟨Tryz.underlying88, by kernel_rfl⟩
instance ti89 : TI Tryz.prog 89 (.array 4 77) (.agg #[.int .i64 0, .int .i64 0, .int .i64 0, .int .i64 0, .int .i64 0, .int .i64 0, .int .i64 0, .int .i64 0]) 8 64 := ⟨Tryz.underlying89, by kernel_rfl⟩
instance ti90 : TI Tryz.prog 90 (.func #[84] #[3] false) (.nilFunc) 1 8 := ⟨Tryz.underlying90, by kernel_rfl⟩
instance ti91 : TI Tryz.prog 91 (.array 8 23) (.agg #[.int .u32 0, .int .u32 0, .int .u32 0, .int .u32 0, .int .u32 0, .int .u32 0, .int .u32 0, .int .u32 0]) 8 32 := ⟨Tryz.underlying91, by kernel_rfl⟩
instance ti92 : TI Tryz.prog 92 (.func #[91, 22] #[91] false) (.nilFunc) 1 8 := ⟨Tryz.underlying92, by kernel_rfl⟩
instance ti93 : TI Tryz.prog 93 (.array 24 27) (.agg #[.int .u64 0, .int .u64 0, .int .u64 0, .int .u64 0, .int .u64 0, .int .u64 0, .int .u64 0, .int .u64 0, .int .u64 0, .int .u64 0, .int .u64 0, .int .u64 0, .int .u64 0, .int .u64 0, .int .u64 0, .int .u64 0, .int .u64 0, .int .u64 0, .int .u64 0, .int .u64 0, .int .u64 0, .int .u64 0, .int .u64 0, .int .u64 0]) 24 192 := ⟨Tryz.underlying93, by kernel_rfl⟩
instance ti94 : TI Tryz.prog 94 (.func #[] #[93] false) (.nilFunc) 1 8 := ⟨Tryz.underlying94, by kernel_rfl⟩
instance ti95 : TI Tryz.prog 95 (.array 25 27) (.agg #[.int .u64 0, .int .u64 0, .int .u64 0, .int .u64 0, .int .u64 0, .int .u64 0, .int .u64 0, .int .u64 0, .int .u64 0, .int .u64 0, .int .u64 0, .int .u64 0, .int .u64 0, .int .u64 0, .int .u64 0, .int .u64 0, .int .u64 0, .int .u64 0, .int .u64 0, .int .u64 0, .int .u64 0, .int .u64 0, .int .u64 0, .int .u64 0, .int .u64 0]) 25 200 := ⟨Tryz.underlying95, by kernel_rfl⟩
instance ti96 : TI Tryz.prog 96 (.func #[95, 93] #[95] false) (.nilFunc) 1 8 := ⟨Tryz.underlying96, by kernel_rfl⟩
instance ti97 : TI Tryz.prog 97 (.func #[64] #[] false) (.nilFunc) 1 8 := ⟨Tryz.underlying97, by kernel_rfl⟩
instance ti98 : TI Tryz.prog 98 (.func #[64] #[] false) (.nilFunc) 1 8 := ⟨Tryz.underlying98, by kernel_rfl⟩
instance ti99 : TI Tryz.prog 99 (.func #[22, 3] #[98] false) (.nilFunc) 1 8 := ⟨Tryz.underlying99, by kernel_rfl⟩
instance ti100 : TI Tryz.prog 100 (.pointer 114) (.pointer none) 1 8 := ⟨Tryz.underlying100, by kernel_rfl⟩
instance ti101 : TI Tryz.prog 101 (.func #[] #[100] false) (.nilFunc) 1 8 := ⟨Tryz.underlying101, by kernel_rfl⟩
instance ti102 : TI Tryz.prog 102 (.func #[22] #[] false) (.nilFunc) 1 8 := ⟨Tryz.underlying102, by kernel_rfl⟩
instance ti103 : TI Tryz.prog 103 (.pointer 118) (.pointer none) 1 8 := ⟨Tryz.underlying103, by kernel_rfl⟩
instance ti104 : TI Tryz.prog 104 (.func #[22] #[103] false) (.nilFunc) 1 8 := ⟨Tryz.underlying104, by kernel_rfl⟩
instance ti105 : TI Tryz.prog 105 (.func #[] #[80] false) (.nilFunc) 1 8 := ⟨Tryz.underlying105, by kernel_rfl⟩
instance ti106 : TI Tryz.prog 106 (.func #[51, 3] #[4] false) (.nilFunc) 1 8 := ⟨Tryz.underlying106, by kernel_rfl⟩
instance ti107 : TI Tryz.prog 107 (.func #[23] #[3] false) (.nilFunc) 1 8 := ⟨Tryz.underlying107, by kernel_rfl⟩
instance ti108 : TI Tryz.prog 108 (.func #[27] #[3] false) (.nilFunc) 1 8 := ⟨Tryz.underlying108, by kernel_rfl⟩
instance ti109 : TI Tryz.prog 109 (.array 64 23) (.agg #[.int .u32 0, .int .u32 0, .int .u32 0, .int .u32 0, .int .u32 0, .int .u32 0, .int .u32 0, .int .u32 0, .int .u32 0, .int .u32 0, .int .u32 0, .int .u32 0, .int .u32 0, .int .u32 0, .int .u32 0, .int .u32 0, .int .u32 0, .int .u32 0, .int .u32 0, .int .u32 0, .int .u32 0, .int .u32 0, .int .u32 0, .int .u32 0, .int .u32 0, .int .u32 0, .int .u32 0, .int .u32 0, .int .u32 0, .int .u32 0, .int .u32 0, .int .u32 0, .int .u32 0, .int .u32 0, .int .u32 0, .int .u32 0, .int .u32 0, .int .u32 0, .int .u32 0, .int .u32 0, .int .u32 0, .int .u32 0, .int .u32 0, .int .u32 0, .int .u32 0, .int .u32 0, .int .u32 0, .int .u32 0, .int .u32 0, .int .u32 0, .int .u32 0, .int .u32 0, .int .u32 0, .int .u32 0, .int .u32 0, .int .u32 0, .int .u32 0, .int .u32 0, .int .u32 0, .int .u32 0, .int .u32 0, .int .u32 0, .int .u32 0, .int .u32 0]) 64 256 := ⟨Tryz.underlying109, by kernel_rfl⟩
instance ti110 : TI Tryz.prog 110 (.func #[] #[109] false) (.nilFunc) 1 8 := ⟨Tryz.underlying110, by kernel_rfl⟩
instance ti111 : TI Tryz.prog 111 (.func #[23, 23] #[23] false) (.nilFunc) 1 8 := ⟨Tryz.underlying111, by kernel_rfl⟩
instance ti112 : TI Tryz.prog 112 (.func #[95, 27] #[95] false) (.nilFunc) 1 8 := ⟨Tryz.underlying112, by kernel_rfl⟩
instance ti113 : TI Tryz.prog 113 (.struct #[⟨ "state", 91, 0, false, "", "tearoff/sha2", 0⟩, ⟨ "rest", 22, 8, false, "", "tearoff/sha2", 32⟩, ⟨ "n", 27, 9, false, "", "tearoff/sha2", 56⟩]) (.agg #[.int .u32 0, .int .u32 0, .int .u32 0, .int .u32 0, .int .u32 0, .int .u32 0, .int .u32 0, .int .u32 0, .slice none 0 0, .int .u64 0]) 10 64 := ⟨Tryz.underlying113, by kernel_rfl⟩
instance si113 : SI Tryz.prog #[⟨ "state", 91, 0, false, "", "tearoff/sha2", 0⟩, ⟨ "rest", 22, 8, false, "", "tearoff/sha2", 32⟩, ⟨ "n", 27, 9, false, "", "tearoff/sha2", 56⟩] [(0, 8), (8, 1), (9, 1)] := ⟨fun w => by kernel_rfl⟩
instance ti114 : TI Tryz.prog 114 (.struct #[⟨ "state", 91, 0, false, "", "tearoff/sha2", 0⟩, ⟨ "rest", 22, 8, false, "", "tearoff/sha2", 32⟩, ⟨ "n", 27, 9, false, "", "tearoff/sha2", 56⟩]) (.agg #[.int .u32 0, .int .u32 0, .int .u32 0, .int .u32 0, .int .u32 0, .int .u32 0, .int .u32 0, .int .u32 0, .slice none 0 0, .int .u64 0]) 10 64 := ⟨Tryz.underlying114, by kernel_rfl⟩
instance ti115 : TI Tryz.prog 115 (.array 64 5) (.agg #[.int .u8 0, .int .u8 0, .int .u8 0, .int .u8 0, .int .u8 0, .int .u8 0, .int .u8 0, .int .u8 0, .int .u8 0, .int .u8 0, .int .u8 0, .int .u8 0, .int .u8 0, .int .u8 0, .int .u8 0, .int .u8 0, .int .u8 0, .int .u8 0, .int .u8 0, .int .u8 0, .int .u8 0, .int .u8 0, .int .u8 0, .int .u8 0, .int .u8 0, .int .u8 0, .int .u8 0, .int .u8 0, .int .u8 0, .int .u8 0, .int .u8 0, .int .u8 0, .int .u8 0, .int .u8 0, .int .u8 0, .int .u8 0, .int .u8 0, .int .u8 0, .int .u8 0, .int .u8 0, .int .u8 0, .int .u8 0, .int .u8 0, .int .u8 0, .int .u8 0, .int .u8 0, .int .u8 0, .int .u8 0, .int .u8 0, .int .u8 0, .int .u8 0, .int .u8 0, .int .u8 0, .int .u8 0, .int .u8 0, .int .u8 0, .int .u8 0, .int .u8 0, .int .u8 0, .int .u8 0, .int .u8 0, .int .u8 0, .int .u8 0, .int .u8 0]) 64 64 := ⟨Tryz.underlying115, by kernel_rfl⟩
instance ti116 : TI Tryz.prog 116 (.func #[91, 115] #[91] false) (.nilFunc) 1 8 := ⟨Tryz.underlying116, by kernel_rfl⟩
instance ti117 : TI Tryz.prog 117 (.struct #[⟨ "s", 95, 0, false, "", "tearoff/shake", 0⟩, ⟨ "rest", 22, 25, false, "", "tearoff/shake", 200⟩]) (.agg #[.int .u64 0, .int .u64 0, .int .u64 0, .int .u64 0, .int .u64 0, .int .u64 0, .int .u64 0, .int .u64 0, .int .u64 0, .int .u64 0, .int .u64 0, .int .u64 0, .int .u64 0, .int .u64 0, .int .u64 0, .int .u64 0, .int .u64 0, .int .u64 0, .int .u64 0, .int .u64 0, .int .u64 0, .int .u64 0, .int .u64 0, .int .u64 0, .int .u64 0, .slice none 0 0]) 26 224 := ⟨Tryz.underlying117, by kernel_rfl⟩
instance si117 : SI Tryz.prog #[⟨ "s", 95, 0, false, "", "tearoff/shake", 0⟩, ⟨ "rest", 22, 25, false, "", "tearoff/shake", 200⟩] [(0, 25), (25, 1)] := ⟨fun w => by kernel_rfl⟩
instance ti118 : TI Tryz.prog 118 (.struct #[⟨ "s", 95, 0, false, "", "tearoff/shake", 0⟩, ⟨ "rest", 22, 25, false, "", "tearoff/shake", 200⟩]) (.agg #[.int .u64 0, .int .u64 0, .int .u64 0, .int .u64 0, .int .u64 0, .int .u64 0, .int .u64 0, .int .u64 0, .int .u64 0, .int .u64 0, .int .u64 0, .int .u64 0, .int .u64 0, .int .u64 0, .int .u64 0, .int .u64 0, .int .u64 0, .int .u64 0, .int .u64 0, .int .u64 0, .int .u64 0, .int .u64 0, .int .u64 0, .int .u64 0, .int .u64 0, .slice none 0 0]) 26 224 := ⟨Tryz.underlying118, by kernel_rfl⟩
instance ti119 : TI Tryz.prog 119 (.func #[95, 22] #[95] false) (.nilFunc) 1 8 := ⟨Tryz.underlying119, by kernel_rfl⟩
instance ti120 : TI Tryz.prog 120 (.func #[95] #[22] false) (.nilFunc) 1 8 := ⟨Tryz.underlying120, by kernel_rfl⟩
instance ti121 : TI Tryz.prog 121 (.func #[95] #[95] false) (.nilFunc) 1 8 := ⟨Tryz.underlying121, by kernel_rfl⟩
instance ti122 : TI Tryz.prog 122 (.func #[51, 3] #[3] false) (.nilFunc) 1 8 := ⟨Tryz.underlying122, by kernel_rfl⟩
instance ti123 : TI Tryz.prog 123 (.array 5 27) (.agg #[.int .u64 0, .int .u64 0, .int .u64 0, .int .u64 0, .int .u64 0]) 5 40 := ⟨Tryz.underlying123, by kernel_rfl⟩
instance ti124 : TI Tryz.prog 124 (.func #[27, 3] #[27] false) (.nilFunc) 1 8 := ⟨Tryz.underlying124, by kernel_rfl⟩
instance ti125 : TI Tryz.prog 125 (.func #[115] #[109] false) (.nilFunc) 1 8 := ⟨Tryz.underlying125, by kernel_rfl⟩
instance ti126 : TI Tryz.prog 126 (.func #[23, 3] #[23] false) (.nilFunc) 1 8 := ⟨Tryz.underlying126, by kernel_rfl⟩
instance ti127 : TI Tryz.prog 127 (.func #[95, 3] #[95] false) (.nilFunc) 1 8 := ⟨Tryz.underlying127, by kernel_rfl⟩
instance ti128 : TI Tryz.prog 128 (.func #[129] #[] false) (.nilFunc) 1 8 := ⟨Tryz.underlying128, by kernel_rfl⟩
instance ti129 : TI Tryz.prog 129 (.pointer 95) (.pointer none) 1 8 := ⟨Tryz.underlying129, by kernel_rfl⟩
instance ti130 : TI Tryz.prog 130 (.array 25 3) (.agg #[.int .i64 0, .int .i64 0, .int .i64 0, .int .i64 0, .int .i64 0, .int .i64 0, .int .i64 0, .int .i64 0, .int .i64 0, .int .i64 0, .int .i64 0, .int .i64 0, .int .i64 0, .int .i64 0, .int .i64 0, .int .i64 0, .int .i64 0, .int .i64 0, .int .i64 0, .int .i64 0, .int .i64 0, .int .i64 0, .int .i64 0, .int .i64 0, .int .i64 0]) 25 200 := ⟨Tryz.underlying130, by kernel_rfl⟩
instance ti131 : TI Tryz.prog 131 (.func #[] #[9] false) (.nilFunc) 1 8 := ⟨Tryz.underlying131, by kernel_rfl⟩
instance ti132 : TI Tryz.prog 132 (.struct #[⟨ "_interface", 17, 0, false, "", "runtime", 0⟩, ⟨ "concrete", 17, 1, false, "", "runtime", 8⟩, ⟨ "asserted", 17, 2, false, "", "runtime", 16⟩, ⟨ "missingMethod", 9, 3, false, "", "runtime", 24⟩]) (.agg #[.pointer none, .pointer none, .pointer none, .string ⟨#[]⟩]) 4 40 := ⟨Tryz.underlying132, by kernel_rfl⟩
instance si132 : SI Tryz.prog #[⟨ "_interface", 17, 0, false, "", "runtime", 0⟩, ⟨ "concrete", 17, 1, false, "", "runtime", 8⟩, ⟨ "asserted", 17, 2, false, "", "runtime", 16⟩, ⟨ "missingMethod", 9, 3, false, "", "runtime", 24⟩] [(0, 1), (1, 1), (2, 1), (3, 1)] := ⟨fun w => by kernel_rfl⟩
instance ti133 : TI Tryz.prog 133 (.struct #[⟨ "_interface", 17, 0, false, "", "runtime", 0⟩, ⟨ "concrete", 17, 1, false, "", "runtime", 8⟩, ⟨ "asserted", 17, 2, false, "", "runtime", 16⟩, ⟨ "missingMethod", 9, 3, false, "", "runtime", 24⟩]) (.agg #[.pointer none, .pointer none, .pointer none, .string ⟨#[]⟩]) 4 40 := ⟨Tryz.underlying133, by kernel_rfl⟩
instance ti134 : TI Tryz.prog 134 (.array 0 16) (.agg #[]) 0 0 := ⟨Tryz.underlying134, by kernel_rfl⟩
instance ti135 : TI Tryz.prog 135 (.struct #[⟨ "_", 134, 0, false, "", "runtime", 0⟩]) (.agg #[]) 0 0 := ⟨Tryz.underlying135, by kernel_rfl⟩
instance si135 : SI Tryz.prog #[⟨ "_", 134, 0, false, "", "runtime", 0⟩] [(0, 0)] := ⟨fun w => by kernel_rfl⟩
instance ti136 : TI Tryz.prog 136 (.struct #[⟨ "_", 134, 0, false, "", "runtime", 0⟩]) (.agg #[]) 0 0 := ⟨Tryz.underlying136, by kernel_rfl⟩
instance ti137 : TI Tryz.prog 137 (.func #[] #[3] false) (.nilFunc) 1 8 := ⟨Tryz.underlying137, by kernel_rfl⟩
instance ti138 : TI Tryz.prog 138 (.int .u8) (.int .u8 0) 1 1 := ⟨Tryz.underlying138, by kernel_rfl⟩
instance ti139 : TI Tryz.prog 139 (.int .u8) (.int .u8 0) 1 1 := ⟨Tryz.underlying139, by kernel_rfl⟩
instance ti140 : TI Tryz.prog 140 (.func #[146, 146] #[4] false) (.nilFunc) 1 8 := ⟨Tryz.underlying140, by kernel_rfl⟩
instance ti141 : TI Tryz.prog 141 (.pointer 5) (.pointer none) 1 8 := ⟨Tryz.underlying141, by kernel_rfl⟩
instance ti142 : TI Tryz.prog 142 (.int .i32) (.int .i32 0) 1 4 := ⟨Tryz.underlying142, by kernel_rfl⟩
instance ti143 : TI Tryz.prog 143 (.int .i32) (.int .i32 0) 1 4 := ⟨Tryz.underlying143, by kernel_rfl⟩
instance ti144 : TI Tryz.prog 144 (.struct #[⟨ "Size_", 12, 0, false, "", "", 0⟩, ⟨ "PtrBytes", 12, 1, false, "", "", 8⟩, ⟨ "Hash", 23, 2, false, "", "", 16⟩, ⟨ "TFlag", 138, 3, false, "", "", 20⟩, ⟨ "Align_", 5, 4, false, "", "", 21⟩, ⟨ "FieldAlign_", 5, 5, false, "", "", 22⟩, ⟨ "Kind_", 139, 6, false, "", "", 23⟩, ⟨ "Equal", 140, 7, false, "", "", 24⟩, ⟨ "GCData", 141, 8, false, "", "", 32⟩, ⟨ "Str", 142, 9, false, "", "", 40⟩, ⟨ "PtrToThis", 143, 10, false, "", "", 44⟩]) (.agg #[.int .u64 0, .int .u64 0, .int .u32 0, .int .u8 0, .int .u8 0, .int .u8 0, .int .u8 0, .nilFunc, .pointer none, .int .i32 0, .int .i32 0]) 11 48 := ⟨Tryz.underlying144, by kernel_rfl⟩
instance si144 : SI Tryz.prog #[⟨ "Size_", 12, 0, false, "", "", 0⟩, ⟨ "PtrBytes", 12, 1, false, "", "", 8⟩, ⟨ "Hash", 23, 2, false, "", "", 16⟩, ⟨ "TFlag", 138, 3, false, "", "", 20⟩, ⟨ "Align_", 5, 4, false, "", "", 21⟩, ⟨ "FieldAlign_", 5, 5, false, "", "", 22⟩, ⟨ "Kind_", 139, 6, false, "", "", 23⟩, ⟨ "Equal", 140, 7, false, "", "", 24⟩, ⟨ "GCData", 141, 8, false, "", "", 32⟩, ⟨ "Str", 142, 9, false, "", "", 40⟩, ⟨ "PtrToThis", 143, 10, false, "", "", 44⟩] [(0, 1), (1, 1), (2, 1), (3, 1), (4, 1), (5, 1), (6, 1), (7, 1), (8, 1), (9, 1), (10, 1)] := ⟨fun w => by kernel_rfl⟩
instance ti145 : TI Tryz.prog 145 (.struct #[⟨ "Size_", 12, 0, false, "", "", 0⟩, ⟨ "PtrBytes", 12, 1, false, "", "", 8⟩, ⟨ "Hash", 23, 2, false, "", "", 16⟩, ⟨ "TFlag", 138, 3, false, "", "", 20⟩, ⟨ "Align_", 5, 4, false, "", "", 21⟩, ⟨ "FieldAlign_", 5, 5, false, "", "", 22⟩, ⟨ "Kind_", 139, 6, false, "", "", 23⟩, ⟨ "Equal", 140, 7, false, "", "", 24⟩, ⟨ "GCData", 141, 8, false, "", "", 32⟩, ⟨ "Str", 142, 9, false, "", "", 40⟩, ⟨ "PtrToThis", 143, 10, false, "", "", 44⟩]) (.agg #[.int .u64 0, .int .u64 0, .int .u32 0, .int .u8 0, .int .u8 0, .int .u8 0, .int .u8 0, .nilFunc, .pointer none, .int .i32 0, .int .i32 0]) 11 48 := ⟨Tryz.underlying145, by kernel_rfl⟩
instance ti146 : TI Tryz.prog 146 (.unsafePointer) (.pointer none) 1 8 := ⟨Tryz.underlying146, by kernel_rfl⟩
instance fo7_0 : FO Tryz.prog 7 0 0 1 false := ⟨_, _, _, _, _, Tryz.underlying7, rfl, ti2, rfl, rfl, by decide⟩
instance fo7_1 : FO Tryz.prog 7 1 1 1 false := ⟨_, _, _, _, _, Tryz.underlying7, rfl, ti3, rfl, rfl, by decide⟩
instance fo7_2 : FO Tryz.prog 7 2 2 1 false := ⟨_, _, _, _, _, Tryz.underlying7, rfl, ti4, rfl, rfl, by decide⟩
instance fo7_3 : FO Tryz.prog 7 3 3 1 false := ⟨_, _, _, _, _, Tryz.underlying7, rfl, ti6, rfl, rfl, by decide⟩
instance fo8_0 : FO Tryz.prog 8 0 0 1 false := ⟨_, _, _, _, _, Tryz.underlying8, rfl, ti2, rfl, rfl, by decide⟩
instance fo8_1 : FO Tryz.prog 8 1 1 1 false := ⟨_, _, _, _, _, Tryz.underlying8, rfl, ti3, rfl, rfl, by decide⟩
instance fo8_2 : FO Tryz.prog 8 2 2 1 false := ⟨_, _, _, _, _, Tryz.underlying8, rfl, ti4, rfl, rfl, by decide⟩
instance fo8_3 : FO Tryz.prog 8 3 3 1 false := ⟨_, _, _, _, _, Tryz.underlying8, rfl, ti6, rfl, rfl, by decide⟩
instance fo13_0 : FO Tryz.prog 13 0 0 1 false := ⟨_, _, _, _, _, Tryz.underlying13, rfl, ti9, rfl, rfl, by decide⟩
instance fo13_1 : FO Tryz.prog 13 1 1 1 false := ⟨_, _, _, _, _, Tryz.underlying13, rfl, ti12, rfl, rfl, by decide⟩
instance fo14_0 : FO Tryz.prog 14 0 0 1 false := ⟨_, _, _, _, _, Tryz.underlying14, rfl, ti9, rfl, rfl, by decide⟩
instance fo14_1 : FO Tryz.prog 14 1 1 1 false := ⟨_, _, _, _, _, Tryz.underlying14, rfl, ti12, rfl, rfl, by decide⟩
instance fo18_0 : FO Tryz.prog 18 0 0 1 false := ⟨_, _, _, _, _, Tryz.underlying18, rfl, ti17, rfl, rfl, by decide⟩
instance fo19_0 : FO Tryz.prog 19 0 0 1 false := ⟨_, _, _, _, _, Tryz.underlying19, rfl, ti17, rfl, rfl, by decide⟩
instance fo24_0 : FO Tryz.prog 24 0 0 1 false := ⟨_, _, _, _, _, Tryz.underlying24, rfl, ti23, rfl, rfl, by decide⟩
instance fo24_1 : FO Tryz.prog 24 1 1 1 false := ⟨_, _, _, _, _, Tryz.underlying24, rfl, ti22, rfl, rfl, by decide⟩
instance fo25_0 : FO Tryz.prog 25 0 0 1 false := ⟨_, _, _, _, _, Tryz.underlying25, rfl, ti23, rfl, rfl, by decide⟩
instance fo25_1 : FO Tryz.prog 25 1 1 1 false := ⟨_, _, _, _, _, Tryz.underlying25, rfl, ti22, rfl, rfl, by decide⟩
instance fo30_0 : FO Tryz.prog 30 0 0 1 false := ⟨_, _, _, _, _, Tryz.underlying30, rfl, ti23, rfl, rfl, by decide⟩
instance fo30_1 : FO Tryz.prog 30 1 1 1 false := ⟨_, _, _, _, _, Tryz.underlying30, rfl, ti3, rfl, rfl, by decide⟩
instance fo30_2 : FO Tryz.prog 30 2 2 1 false := ⟨_, _, _, _, _, Tryz.underlying30, rfl, ti3, rfl, rfl, by decide⟩
instance fo30_3 : FO Tryz.prog 30 3 3 1 false := ⟨_, _, _, _, _, Tryz.underlying30, rfl, ti3, rfl, rfl, by decide⟩
instance fo30_4 : FO Tryz.prog 30 4 4 1 false := ⟨_, _, _, _, _, Tryz.underlying30, rfl, ti3, rfl, rfl, by decide⟩
instance fo30_5 : FO Tryz.prog 30 5 5 1 false := ⟨_, _, _, _, _, Tryz.underlying30, rfl, ti3, rfl, rfl, by decide⟩
instance fo31_0 : FO Tryz.prog 31 0 0 1 false := ⟨_, _, _, _, _, Tryz.underlying31, rfl, ti23, rfl, rfl, by decide⟩
instance fo31_1 : FO Tryz.prog 31 1 1 1 false := ⟨_, _, _, _, _, Tryz.underlying31, rfl, ti3, rfl, rfl, by decide⟩
instance fo31_2 : FO Tryz.prog 31 2 2 1 false := ⟨_, _, _, _, _, Tryz.underlying31, rfl, ti3, rfl, rfl, by decide⟩
instance fo31_3 : FO Tryz.prog 31 3 3 1 false := ⟨_, _, _, _, _, Tryz.underlying31, rfl, ti3, rfl, rfl, by decide⟩
instance fo31_4 : FO Tryz.prog 31 4 4 1 false := ⟨_, _, _, _, _, Tryz.underlying31, rfl, ti3, rfl, rfl, by decide⟩
instance fo31_5 : FO Tryz.prog 31 5 5 1 false := ⟨_, _, _, _, _, Tryz.underlying31, rfl, ti3, rfl, rfl, by decide⟩
instance fo40_0 : FO Tryz.prog 40 0 0 1 false := ⟨_, _, _, _, _, Tryz.underlying40, rfl, ti22, rfl, rfl, by decide⟩
instance fo40_1 : FO Tryz.prog 40 1 1 1 false := ⟨_, _, _, _, _, Tryz.underlying40, rfl, ti22, rfl, rfl, by decide⟩
instance fo41_0 : FO Tryz.prog 41 0 0 1 false := ⟨_, _, _, _, _, Tryz.underlying41, rfl, ti22, rfl, rfl, by decide⟩
instance fo41_1 : FO Tryz.prog 41 1 1 1 false := ⟨_, _, _, _, _, Tryz.underlying41, rfl, ti22, rfl, rfl, by decide⟩
instance fo76_0 : FO Tryz.prog 76 0 0 1 false := ⟨_, _, _, _, _, Tryz.underlying76, rfl, ti3, rfl, rfl, by decide⟩
instance fo76_1 : FO Tryz.prog 76 1 1 1 false := ⟨_, _, _, _, _, Tryz.underlying76, rfl, ti3, rfl, rfl, by decide⟩
instance fo77_0 : FO Tryz.prog 77 0 0 1 false := ⟨_, _, _, _, _, Tryz.underlying77, rfl, ti3, rfl, rfl, by decide⟩
instance fo77_1 : FO Tryz.prog 77 1 1 1 false := ⟨_, _, _, _, _, Tryz.underlying77, rfl, ti3, rfl, rfl, by decide⟩
instance fo113_0 : FO Tryz.prog 113 0 0 8 true := ⟨_, _, _, _, _, Tryz.underlying113, rfl, ti91, rfl, rfl, by decide⟩
instance fo113_1 : FO Tryz.prog 113 1 8 1 false := ⟨_, _, _, _, _, Tryz.underlying113, rfl, ti22, rfl, rfl, by decide⟩
instance fo113_2 : FO Tryz.prog 113 2 9 1 false := ⟨_, _, _, _, _, Tryz.underlying113, rfl, ti27, rfl, rfl, by decide⟩
instance fo114_0 : FO Tryz.prog 114 0 0 8 true := ⟨_, _, _, _, _, Tryz.underlying114, rfl, ti91, rfl, rfl, by decide⟩
instance fo114_1 : FO Tryz.prog 114 1 8 1 false := ⟨_, _, _, _, _, Tryz.underlying114, rfl, ti22, rfl, rfl, by decide⟩
instance fo114_2 : FO Tryz.prog 114 2 9 1 false := ⟨_, _, _, _, _, Tryz.underlying114, rfl, ti27, rfl, rfl, by decide⟩
instance fo117_0 : FO Tryz.prog 117 0 0 25 true := ⟨_, _, _, _, _, Tryz.underlying117, rfl, ti95, rfl, rfl, by decide⟩
instance fo117_1 : FO Tryz.prog 117 1 25 1 false := ⟨_, _, _, _, _, Tryz.underlying117, rfl, ti22, rfl, rfl, by decide⟩
instance fo118_0 : FO Tryz.prog 118 0 0 25 true := ⟨_, _, _, _, _, Tryz.underlying118, rfl, ti95, rfl, rfl, by decide⟩
instance fo118_1 : FO Tryz.prog 118 1 25 1 false := ⟨_, _, _, _, _, Tryz.underlying118, rfl, ti22, rfl, rfl, by decide⟩
instance fo132_0 : FO Tryz.prog 132 0 0 1 false := ⟨_, _, _, _, _, Tryz.underlying132, rfl, ti17, rfl, rfl, by decide⟩
instance fo132_1 : FO Tryz.prog 132 1 1 1 false := ⟨_, _, _, _, _, Tryz.underlying132, rfl, ti17, rfl, rfl, by decide⟩
instance fo132_2 : FO Tryz.prog 132 2 2 1 false := ⟨_, _, _, _, _, Tryz.underlying132, rfl, ti17, rfl, rfl, by decide⟩
instance fo132_3 : FO Tryz.prog 132 3 3 1 false := ⟨_, _, _, _, _, Tryz.underlying132, rfl, ti9, rfl, rfl, by decide⟩
instance fo133_0 : FO Tryz.prog 133 0 0 1 false := ⟨_, _, _, _, _, Tryz.underlying133, rfl, ti17, rfl, rfl, by decide⟩
instance fo133_1 : FO Tryz.prog 133 1 1 1 false := ⟨_, _, _, _, _, Tryz.underlying133, rfl, ti17, rfl, rfl, by decide⟩
instance fo133_2 : FO Tryz.prog 133 2 2 1 false := ⟨_, _, _, _, _, Tryz.underlying133, rfl, ti17, rfl, rfl, by decide⟩
instance fo133_3 : FO Tryz.prog 133 3 3 1 false := ⟨_, _, _, _, _, Tryz.underlying133, rfl, ti9, rfl, rfl, by decide⟩
instance fo144_0 : FO Tryz.prog 144 0 0 1 false := ⟨_, _, _, _, _, Tryz.underlying144, rfl, ti12, rfl, rfl, by decide⟩
instance fo144_1 : FO Tryz.prog 144 1 1 1 false := ⟨_, _, _, _, _, Tryz.underlying144, rfl, ti12, rfl, rfl, by decide⟩
instance fo144_2 : FO Tryz.prog 144 2 2 1 false := ⟨_, _, _, _, _, Tryz.underlying144, rfl, ti23, rfl, rfl, by decide⟩
instance fo144_3 : FO Tryz.prog 144 3 3 1 false := ⟨_, _, _, _, _, Tryz.underlying144, rfl, ti138, rfl, rfl, by decide⟩
instance fo144_4 : FO Tryz.prog 144 4 4 1 false := ⟨_, _, _, _, _, Tryz.underlying144, rfl, ti5, rfl, rfl, by decide⟩
instance fo144_5 : FO Tryz.prog 144 5 5 1 false := ⟨_, _, _, _, _, Tryz.underlying144, rfl, ti5, rfl, rfl, by decide⟩
instance fo144_6 : FO Tryz.prog 144 6 6 1 false := ⟨_, _, _, _, _, Tryz.underlying144, rfl, ti139, rfl, rfl, by decide⟩
instance fo144_7 : FO Tryz.prog 144 7 7 1 false := ⟨_, _, _, _, _, Tryz.underlying144, rfl, ti140, rfl, rfl, by decide⟩
instance fo144_8 : FO Tryz.prog 144 8 8 1 false := ⟨_, _, _, _, _, Tryz.underlying144, rfl, ti141, rfl, rfl, by decide⟩
instance fo144_9 : FO Tryz.prog 144 9 9 1 false := ⟨_, _, _, _, _, Tryz.underlying144, rfl, ti142, rfl, rfl, by decide⟩
instance fo144_10 : FO Tryz.prog 144 10 10 1 false := ⟨_, _, _, _, _, Tryz.underlying144, rfl, ti143, rfl, rfl, by decide⟩
instance fo145_0 : FO Tryz.prog 145 0 0 1 false := ⟨_, _, _, _, _, Tryz.underlying145, rfl, ti12, rfl, rfl, by decide⟩
instance fo145_1 : FO Tryz.prog 145 1 1 1 false := ⟨_, _, _, _, _, Tryz.underlying145, rfl, ti12, rfl, rfl, by decide⟩
instance fo145_2 : FO Tryz.prog 145 2 2 1 false := ⟨_, _, _, _, _, Tryz.underlying145, rfl, ti23, rfl, rfl, by decide⟩
instance fo145_3 : FO Tryz.prog 145 3 3 1 false := ⟨_, _, _, _, _, Tryz.underlying145, rfl, ti138, rfl, rfl, by decide⟩
instance fo145_4 : FO Tryz.prog 145 4 4 1 false := ⟨_, _, _, _, _, Tryz.underlying145, rfl, ti5, rfl, rfl, by decide⟩
instance fo145_5 : FO Tryz.prog 145 5 5 1 false := ⟨_, _, _, _, _, Tryz.underlying145, rfl, ti5, rfl, rfl, by decide⟩
instance fo145_6 : FO Tryz.prog 145 6 6 1 false := ⟨_, _, _, _, _, Tryz.underlying145, rfl, ti139, rfl, rfl, by decide⟩
instance fo145_7 : FO Tryz.prog 145 7 7 1 false := ⟨_, _, _, _, _, Tryz.underlying145, rfl, ti140, rfl, rfl, by decide⟩
instance fo145_8 : FO Tryz.prog 145 8 8 1 false := ⟨_, _, _, _, _, Tryz.underlying145, rfl, ti141, rfl, rfl, by decide⟩
instance fo145_9 : FO Tryz.prog 145 9 9 1 false := ⟨_, _, _, _, _, Tryz.underlying145, rfl, ti142, rfl, rfl, by decide⟩
instance fo145_10 : FO Tryz.prog 145 10 10 1 false := ⟨_, _, _, _, _, Tryz.underlying145, rfl, ti143, rfl, rfl, by decide⟩
theorem eqs7 {a0 b0 : Int} {a1 b1 : Int} {a2 b2 : Bool} {a3 b3 : Int} : EqS Tryz.prog 7 [.int .i64 a0, .int .i64 a1, .bool a2, .int .u8 a3] [.int .i64 b0, .int .i64 b1, .bool b2, .int .u8 b3] (a0 = b0 ∧ (a1 = b1 ∧ (a2 = b2 ∧ (a3 = b3 ∧ True)))) := eqS_of _ Tryz.underlying7 (by kernel_rfl) (by kernel_rfl) (eqF_int (by decide) rfl rfl (eqF_int (by decide) rfl rfl (eqF_bool (by decide) rfl rfl (eqF_int (by decide) rfl rfl eqF_nil))))
theorem eqs8 {a0 b0 : Int} {a1 b1 : Int} {a2 b2 : Bool} {a3 b3 : Int} : EqS Tryz.prog 8 [.int .i64 a0, .int .i64 a1, .bool a2, .int .u8 a3] [.int .i64 b0, .int .i64 b1, .bool b2, .int .u8 b3] (a0 = b0 ∧ (a1 = b1 ∧ (a2 = b2 ∧ (a3 = b3 ∧ True)))) := eqS_of _ Tryz.underlying8 (by kernel_rfl) (by kernel_rfl) (eqF_int (by decide) rfl rfl (eqF_int (by decide) rfl rfl (eqF_bool (by decide) rfl rfl (eqF_int (by decide) rfl rfl eqF_nil))))
theorem eqs30 {a0 b0 : Int} {a1 b1 : Int} {a2 b2 : Int} {a3 b3 : Int} {a4 b4 : Int} {a5 b5 : Int} : EqS Tryz.prog 30 [.int .u32 a0, .int .i64 a1, .int .i64 a2, .int .i64 a3, .int .i64 a4, .int .i64 a5] [.int .u32 b0, .int .i64 b1, .int .i64 b2, .int .i64 b3, .int .i64 b4, .int .i64 b5] (a0 = b0 ∧ (a1 = b1 ∧ (a2 = b2 ∧ (a3 = b3 ∧ (a4 = b4 ∧ (a5 = b5 ∧ True)))))) := eqS_of _ Tryz.underlying30 (by kernel_rfl) (by kernel_rfl) (eqF_int (by decide) rfl rfl (eqF_int (by decide) rfl rfl (eqF_int (by decide) rfl rfl (eqF_int (by decide) rfl rfl (eqF_int (by decide) rfl rfl (eqF_int (by decide) rfl rfl eqF_nil))))))
theorem eqs31 {a0 b0 : Int} {a1 b1 : Int} {a2 b2 : Int} {a3 b3 : Int} {a4 b4 : Int} {a5 b5 : Int} : EqS Tryz.prog 31 [.int .u32 a0, .int .i64 a1, .int .i64 a2, .int .i64 a3, .int .i64 a4, .int .i64 a5] [.int .u32 b0, .int .i64 b1, .int .i64 b2, .int .i64 b3, .int .i64 b4, .int .i64 b5] (a0 = b0 ∧ (a1 = b1 ∧ (a2 = b2 ∧ (a3 = b3 ∧ (a4 = b4 ∧ (a5 = b5 ∧ True)))))) := eqS_of _ Tryz.underlying31 (by kernel_rfl) (by kernel_rfl) (eqF_int (by decide) rfl rfl (eqF_int (by decide) rfl rfl (eqF_int (by decide) rfl rfl (eqF_int (by decide) rfl rfl (eqF_int (by decide) rfl rfl (eqF_int (by decide) rfl rfl eqF_nil))))))
theorem eqs76 {a0 b0 : Int} {a1 b1 : Int} : EqS Tryz.prog 76 [.int .i64 a0, .int .i64 a1] [.int .i64 b0, .int .i64 b1] (a0 = b0 ∧ (a1 = b1 ∧ True)) := eqS_of _ Tryz.underlying76 (by kernel_rfl) (by kernel_rfl) (eqF_int (by decide) rfl rfl (eqF_int (by decide) rfl rfl eqF_nil))
theorem eqs77 {a0 b0 : Int} {a1 b1 : Int} : EqS Tryz.prog 77 [.int .i64 a0, .int .i64 a1] [.int .i64 b0, .int .i64 b1] (a0 = b0 ∧ (a1 = b1 ∧ True)) := eqS_of _ Tryz.underlying77 (by kernel_rfl) (by kernel_rfl) (eqF_int (by decide) rfl rfl (eqF_int (by decide) rfl rfl eqF_nil))
end Go.Proofs.YtbjnjedfoiedeaaGreatDoor
set_option linter.unusedVariables false
set_option linter.unusedSimpArgs false
namespace Go.Proofs.YtbjnjedfoiedeaaGreatDoor
open Go Go.Eng
theorem bytesClone_spec {G : World} {M : Mem} {L : Own} {A : Option Addr} {n c : Nat} {bs : List UInt8} (h : Bytes M A n c bs) (hn : n ≤ 140737488355328) :
    Con Tryz.prog 51 #[.slice A n c] G M L (fun v M' L' => L' = L ∧ ∃ A' c', v = .slice A' n c' ∧ Bytes M' A' n c' bs) noPanic := by
  refine enter (args := [_]) (fn := Tryz.f51) ⟨Tryz.func51, rfl, by kernel_rfl, by kernel_rfl⟩ 8 rfl ?_
  refine x_seq (x_region ?_)
  refine tl_y rfl (y_assign rfl) ?_
  refine tl_nil (.then_normal ?_)
  refine x_seq (x_seq (x_region ?_))
  refine tl_y rfl (y_move (v := .slice _ _ _) rfl) ?_
  refine tl_y rfl (y_eqNilSlice rfl rfl) ?_
  refine tl_nil (.then_normal ?_)
  refine x_condb rfl (fun hc1 => ?_) (fun hc1 => ?_)
  ·
    obtain rfl : A = none := by simpa using hc1
    have h0 : n = 0 := by
      rcases Nat.eq_zero_or_pos n with h0 | h0
      · exact h0
      · obtain ⟨b, o, e, _⟩ := h.addr h0; cases e
    subst h0
    have hb : bs = [] := List.eq_nil_of_length_eq_zero h.size
    subst hb
    refine x_seq (x_region ?_)
    refine tl_y rfl (y_assign rfl) ?_
    refine tl_nil (.then_normal ?_)
    refine x_ret (.then_ret (ret1 rfl rfl (Le.refl _) ⟨rfl, none, 0, rfl, Row.nil _ _⟩))
  ·
    refine x_skip (.then_normal ?_)
    refine x_seq (x_region ?_)
    refine tl_e rfl (e_buildSlice0 (fun b1 => ?_))
    refine tl_y rfl (y_move (v := .slice _ _ _) rfl) ?_
    refine tl_e rfl (e_append1 (by decide) rfl rfl OwnRow.made00 (.row h) (all_one_bv bs) (by omega) (by omega) (fun A' cap' E hE => ?_))
    rw [Nat.zero_add, List.nil_append] at hE; rw [Nat.zero_add]
    refine tl_y rfl (y_assign (v := .slice _ _ _) rfl) ?_
    refine tl_nil (.then_normal ?_)
    refine .sub (F' := [(2, _)]) (.cons rfl .nil) ?_
    refine x_ret (.pubRow hE fun M' hle hr => ret1 rfl rfl hle ⟨rfl, _, _, rfl, hr⟩)
abbrev Ints (M : Mem) (A : Option Addr) (n cap : Nat) (xs : List Int) : Prop := Row M 1 A n cap (xs.map (.int .i64))
theorem ints_one (xs : List Int) : (xs.map (Value.int .i64)).all one = true := by simp [one, Value.oneCell']
theorem Ints.size {M : Mem} {A : Option Addr} {n cap : Nat} {xs : List Int} (h : Ints M A n cap xs) : xs.length = n := by have := h.len; simpa using this
def noneOf (xs : List Int) (x : Int) (k : Nat) : Prop := ∀ j, j < k → xs.getD j 0 ≠ x
theorem noneOf_succ {xs : List Int} {x : Int} {k : Nat} (h : noneOf xs x k) (hk : ¬ x = xs.getD k 0) : noneOf xs x (k + 1) := fun j hj => by
  rcases Nat.lt_or_ge j k with hlt | hge
  · exact h j hlt
  · obtain rfl : j = k := by omega
    exact Ne.symm hk
theorem indexInts_spec {G : World} {M : Mem} {L : Own} {A : Option Addr} {n c : Nat} {xs : List Int} (h : Ints M A n c xs) (x : Int) :
    Con Tryz.prog 99 #[.slice A n c, .int .i64 x] G M L (fun v M' L' => M' = M ∧ L' = L ∧ ∃ r : Int, v = .int .i64 r ∧ (0 ≤ r ↔ x ∈ xs)) noPanic := by
  have hs := h.size
  have hmx := h.max
  have hle := h.le
  refine enter (args := [_, _]) (fn := Tryz.f99) ⟨Tryz.func99, rfl, by kernel_rfl, by kernel_rfl⟩ 19 rfl ?_
  refine x_seq (x_region ?_)
  refine tl_y rfl (y_assign rfl) ?_
  refine tl_nil (.then_normal ?_)
  refine x_seq (x_seq (x_region ?_))
  refine tl_y rfl (y_move (v := .slice _ _ _) rfl) ?_
  refine tl_y rfl (y_len rfl) ?_
  refine tl_y rfl (y_move rfl) ?_
  refine tl_nil (.then_normal ?_)
  refine x_block ?_
  refine x_loop (I := fun m' F D M1 L1 => ∃ k : Nat, m' = n - k ∧ k ≤ n ∧ noneOf xs x k ∧ D = [] ∧ M1 = M ∧ L1 = L ∧ F = [(0, .slice A n c), (1, .int .i64 x), (4, .int .i64 0), (7, .int .i64 n), (8, .int .i64 k)]) (n) (F0 := [(0, _), (1, _), (4, _), (7, _), (8, _)]) ?_ (.cons rfl (.cons rfl (.cons rfl (.cons rfl (.cons rfl .nil))))) ?_  -- slots [0, 1, 4, 7, 8], written [4, 8]
  · exact ⟨0, rfl, by omega, (fun j h => by omega), rfl, rfl, rfl, rfl⟩
  rintro m _ _ M1 L1 ⟨k, rfl, hk, hno, rfl, rfl, rfl, rfl⟩
  refine x_seq (x_region ?_)
  refine tl_y rfl (y_lss rfl rfl) ?_
  refine tl_nil (.then_normal ?_)
  refine x_seq ?_
  refine x_cond rfl (fun hc1 => ?_) (fun hc1 => ?_)
  ·
    have hkn : k < n := by omega
    obtain ⟨p, o, rfl, hca⟩ := h.addr (by omega)
    have hcell := hca L1 k (.int .i64 (xs.getD k 0)) (by simp [hs, hkn])
    refine x_skip (.then_normal ?_)
    refine x_seq ?_
    refine x_block ?_
    refine x_seq (x_region ?_)
    refine tl_y rfl (y_move (v := .int _ _) rfl) ?_
    refine tl_y rfl (y_assign (v := .int _ _) rfl) ?_
    refine tl_nil (.then_normal ?_)
    refine x_seq (x_region ?_)
    refine tl_y rfl (y_move (v := .int _ _) rfl) ?_
    refine tl_y rfl (y_move (v := .slice _ _ _) rfl) ?_
    refine tl_y rfl (y_move (v := .int _ _) rfl) ?_
    refine tl_y rfl (y_indexAddr rfl rfl (by omega)) ?_
    refine tl_y rfl (y_load rfl rfl (.at_ hcell (by omega))) ?_
    refine tl_y rfl (y_eql rfl rfl) ?_
    refine tl_nil (.then_normal ?_)
    refine .sub (F' := [(0, _), (1, _), (4, _), (5, _), (7, _), (8, _), (16, _)]) (.cons rfl (.cons rfl (.cons rfl (.cons rfl (.cons rfl (.cons rfl (.cons rfl .nil))))))) ?_
    refine x_cond rfl (fun hc2 => ?_) (fun hc2 => ?_)
    ·
      refine x_seq (x_region ?_)
      refine tl_y rfl (y_move (v := .int _ _) rfl) ?_
      refine tl_y rfl (y_assign (v := .int _ _) rfl) ?_
      refine tl_nil (.then_normal ?_)
      refine x_ret (.block_ret (.then_ret (.loop_ret (.block_ret (.then_ret (ret1 rfl rfl (Le.refl _) ⟨rfl, rfl, _, rfl, iff_of_true (by omega) (by rw [hc2, List.getD_eq_getElem?_getD, List.getElem?_eq_getElem (by omega)]; simp)⟩))))))
    ·
      refine x_skip (.block_normal (.then_normal ?_))
      refine x_region ?_
      refine tl_y rfl (y_addI rfl rfl (by omega)) ?_
      refine tl_y rfl (y_move (v := .int _ _) rfl) ?_
      refine tl_nil (.loop_next (m' := n - (k + 1)) (by omega) (F' := [(0, _), (1, _), (4, _), (7, _), (8, _)]) (.cons rfl (.cons rfl (.cons rfl (.cons rfl (.cons rfl .nil))))) ?_)
      exact ⟨k + 1, rfl, by omega, noneOf_succ hno hc2, rfl, rfl, rfl, rfl⟩
  ·
    refine x_exit (.then_exit (.loop_exit (.block_exit (.then_normal ?_))))
    refine .sub (F' := []) .nil ?_
    refine x_seq (x_region ?_)
    refine tl_y rfl (y_assign rfl) ?_
    refine tl_nil (.then_normal ?_)
    refine x_ret (ret1 rfl rfl (Le.refl _) ⟨rfl, rfl, _, rfl, iff_of_false (by omega) (fun hm => by obtain ⟨j, hj, he⟩ := List.getElem_of_mem hm; exact hno j (by omega) (by rw [List.getD_eq_getElem?_getD, List.getElem?_eq_getElem hj]; simpa using he))⟩)
theorem containsInts_spec {G : World} {M : Mem} {L : Own} {A : Option Addr} {n c : Nat} {xs : List Int} (h : Ints M A n c xs) (x : Int) :
    Con Tryz.prog 88 #[.slice A n c, .int .i64 x] G M L (fun v M' L' => M' = M ∧ L' = L ∧ v = .bool (decide (x ∈ xs))) noPanic := by
  refine enter (args := [_, _]) (fn := Tryz.f88) ⟨Tryz.func88, rfl, by kernel_rfl, by kernel_rfl⟩ 9 rfl ?_
  refine x_seq (x_region ?_)
  refine tl_y rfl (y_assign rfl) ?_
  refine tl_nil (.then_normal ?_)
  refine x_seq (x_region ?_)
  refine tl_y rfl (y_move (v := .slice _ _ _) rfl) ?_
  refine tl_y rfl (y_move (v := .int _ _) rfl) ?_
  refine tl_e rfl (e_call' rfl (indexInts_spec h x) ?_)
  rintro _ M1 L1 hM1 ⟨rfl, rfl, r, rfl, hr⟩
  refine tl_y rfl (y_geq rfl rfl) ?_
  refine tl_y rfl (y_assign (v := .bool _) rfl) ?_
  refine tl_nil (.then_normal ?_)
  refine .sub (F' := [(4, _)]) (.cons rfl .nil) ?_
  refine x_ret (ret1 rfl rfl (Le.refl _) ⟨rfl, rfl, by congr 1; exact decide_eq_decide.2 hr⟩)
end Go.Proofs.YtbjnjedfoiedeaaGreatDoor
set_option linter.unusedVariables false
set_option linter.unusedSimpArgs false
set_option linter.constructorNameAsVariable false
namespace Go.Proofs.YtbjnjedfoiedeaaGreatDoor
open Go Go.Eng
theorem src_in {M : Mem} {L : Own} {s n : Nat} {A : Option Addr} {vs : List Value} {p : Nat × Obj} (h : RowIn M L s A n vs) : Src M (p :: L) s A n vs := ⟨h.len, fun w hw h0 => by
  rcases Nat.eq_zero_or_pos n with h1 | h1
  · subst h1; simp at h0
  · obtain ⟨b, o, e, hc⟩ := h.addr h1
    exact ⟨_, e, fun j v hj => by rw [add_plain]; exact hc j v hj w ⟨hw.ro, fun q hq => hw.own q (List.mem_cons_of_mem _ hq)⟩⟩⟩
section
variable {G : World} {M : Mem} {L R : Own}
/-- A clone of what lies anywhere, owned. -/
theorem bytesClone_own {A : Option Addr} {n c : Nat} {bs : List UInt8} (h : RowIn M L 1 A n (bs.map bv)) (hn : n ≤ 140737488355328) :
    Con Tryz.prog 51 #[.slice A n c] G M L (fun v M' L' => M = M' ∧ ∃ A' c' E, v = .slice A' n c' ∧ OwnRow 5 1 A' n c' (bs.map bv) E ∧ L' = E ++ L) noPanic := by
  have hbl : bs.length = n := by have := h.len; simpa using this
  refine enter (args := [_]) (fn := Tryz.f51) ⟨Tryz.func51, rfl, by kernel_rfl, by kernel_rfl⟩ 8 rfl ?_
  refine x_seq (x_region ?_)
  refine tl_y rfl (y_assign rfl) ?_
  refine tl_nil (.then_normal ?_)
  refine x_seq (x_seq (x_region ?_))
  refine tl_y rfl (y_move (v := .slice _ _ _) rfl) ?_
  refine tl_y rfl (y_eqNilSlice rfl rfl) ?_
  refine tl_nil (.then_normal ?_)
  refine x_condb rfl (fun hc1 => ?_) (fun hc1 => ?_)
  ·
    obtain rfl : A = none := by simpa using hc1
    have h0 : n = 0 := by
      rcases Nat.eq_zero_or_pos n with h0 | h0
      · exact h0
      · obtain ⟨b, o, e, _⟩ := h.addr h0; cases e
    subst h0
    have hb : bs = [] := List.eq_nil_of_length_eq_zero hbl
    subst hb
    refine x_seq (x_region ?_)
    refine tl_y rfl (y_assign rfl) ?_
    refine tl_nil (.then_normal ?_)
    refine x_ret (.then_ret (ret1 rfl rfl (Le.refl _) ⟨rfl, none, 0, [], rfl, .nil, rfl⟩))
  ·
    refine x_skip (.then_normal ?_)
    refine x_seq (x_region ?_)
    refine tl_e rfl (e_buildSlice0 (fun b1 => ?_))
    refine tl_y rfl (y_move (v := .slice _ _ _) rfl) ?_
    refine tl_e rfl (e_append1 (by decide) rfl rfl OwnRow.made00 (src_in h) (all_one_bv bs) (by omega) (by omega) (fun A' cap' E hE => ?_))
    rw [Nat.zero_add, List.nil_append] at hE; rw [Nat.zero_add]
    refine tl_y rfl (y_assign (v := .slice _ _ _) rfl) ?_
    refine tl_nil (.then_normal ?_)
    refine .sub (F' := [(2, _)]) (.cons rfl .nil) ?_
    refine x_ret (ret1 rfl rfl (Le.refl _) ⟨rfl, _, _, E, rfl, hE, rfl⟩)
end
end Go.Proofs.YtbjnjedfoiedeaaGreatDoor
set_option linter.unusedVariables false
set_option linter.unusedSimpArgs false
namespace Go.Proofs.YtbjnjedfoiedeaaGreatDoor
open Go Go.Eng
/-! ### Keccak, as the program does it -/
def rotl (x : UInt64) (s : Nat) : UInt64 := shl64 x s ||| shr64 x (64 - s)
def kTurns : List Nat := [0, 1, 62, 28, 27, 36, 44, 6, 55, 20, 3, 10, 43, 25, 39, 41, 45, 15, 21, 8, 18, 2, 61, 56, 14]
def kRc : List UInt64 := [0x0000000000000001, 0x0000000000008082, 0x800000000000808a, 0x8000000080008000,
  0x000000000000808b, 0x0000000080000001, 0x8000000080008081, 0x8000000000008009,
  0x000000000000008a, 0x0000000000000088, 0x0000000080008009, 0x000000008000000a,
  0x000000008000808b, 0x800000000000008b, 0x8000000000008089, 0x8000000000008003,
  0x8000000000008002, 0x8000000000000080, 0x000000000000800a, 0x800000008000000a,
  0x8000000080008081, 0x8000000000008080, 0x0000000080000001, 0x8000000080008008]
def updL (l : List UInt64) (i : Nat) (f : UInt64 → UInt64) : List UInt64 := l.set i (f (l.getD i 0))
theorem updL_length (l : List UInt64) (i : Nat) (f : UInt64 → UInt64) : (updL l i f).length = l.length := by simp [updL]
def kCols (a : List UInt64) : Nat → List UInt64
  | 0 => List.replicate 5 0
  | k + 1 => updL (kCols a k) (k % 5) (· ^^^ a.getD k 0)
def kTheta (c a : List UInt64) : Nat → List UInt64
  | 0 => a
  | k + 1 => updL (kTheta c a k) k (· ^^^ (c.getD ((k % 5 + 4) % 5) 0 ^^^ rotl (c.getD ((k % 5 + 1) % 5) 0) 1))
def kRho (a : List UInt64) : Nat → List UInt64
  | 0 => List.replicate 25 0
  | k + 1 => (kRho a k).set (k / 5 + 5 * ((2 * (k % 5) + 3 * (k / 5)) % 5)) (rotl (a.getD k 0) (kTurns.getD k 0))
def kChi (b a : List UInt64) : Nat → List UInt64
  | 0 => a
  | k + 1 => (kChi b a k).set k (b.getD k 0 ^^^ (~~~ (b.getD (k / 5 * 5 + (k % 5 + 1) % 5) 0) &&& b.getD (k / 5 * 5 + (k % 5 + 2) % 5) 0))
def kThetaA (a : List UInt64) : List UInt64 := kTheta (kCols a 25) a 25
def kRound (a : List UInt64) (rc : UInt64) : List UInt64 := updL (kChi (kRho (kThetaA a) 25) (kThetaA a) 25) 0 (· ^^^ rc)
def kPerm (a : List UInt64) : Nat → List UInt64
  | 0 => a
  | k + 1 => kRound (kPerm a k) (kRc.getD k 0)
theorem kCols_length (a : List UInt64) (k : Nat) : (kCols a k).length = 5 := by
  induction k with
  | zero => simp [kCols]
  | succ k ih => rw [kCols, updL_length, ih]
theorem kTheta_length (c a : List UInt64) (k : Nat) : (kTheta c a k).length = a.length := by
  induction k with
  | zero => simp [kTheta]
  | succ k ih => rw [kTheta, updL_length, ih]
theorem kRho_length (a : List UInt64) (k : Nat) : (kRho a k).length = 25 := by
  induction k with
  | zero => simp [kRho]
  | succ k ih => rw [kRho, List.length_set, ih]
theorem kChi_length (b a : List UInt64) (k : Nat) : (kChi b a k).length = a.length := by
  induction k with
  | zero => simp [kChi]
  | succ k ih => rw [kChi, List.length_set, ih]
theorem kRound_length (a : List UInt64) (rc : UInt64) : (kRound a rc).length = a.length := by
  rw [kRound, updL_length, kChi_length, kThetaA, kTheta_length]
theorem kPerm_length (a : List UInt64) (k : Nat) : (kPerm a k).length = a.length := by
  induction k with
  | zero => rfl
  | succ k ih => rw [kPerm, kRound_length, ih]
/-! ### Keccak, as the reference does it -/
def rCols (s : List UInt64) : Nat → List UInt64
  | 0 => List.replicate 5 0
  | x + 1 => (rCols s x).set x (0 ^^^ s.getD x 0 ^^^ s.getD (x + 5) 0 ^^^ s.getD (x + 10) 0 ^^^ s.getD (x + 15) 0 ^^^ s.getD (x + 20) 0)
def rThIn (d : UInt64) (x : Nat) (s : List UInt64) : Nat → List UInt64
  | 0 => s
  | y + 1 => updL (rThIn d x s y) (x + 5 * y) (· ^^^ d)
def rTh (c s : List UInt64) : Nat → List UInt64
  | 0 => s
  | x + 1 => rThIn (c.getD ((x + 4) % 5) 0 ^^^ rotl (c.getD ((x + 1) % 5) 0) 1) x (rTh c s x) 5
def rXY : Nat → Nat × Nat
  | 0 => (1, 0)
  | t + 1 => ((rXY t).2, (2 * (rXY t).1 + 3 * (rXY t).2) % 5)
def rRh (s : List UInt64) : Nat → List UInt64
  | 0 => s
  | t + 1 => updL (rRh s t) ((rXY t).1 + 5 * (rXY t).2) (rotl · ((t + 1) * (t + 2) / 2 % 64))
def rBIn (s b : List UInt64) (x : Nat) : Nat → List UInt64
  | 0 => b
  | y + 1 => (rBIn s b x y).set (y + 5 * ((2 * x + 3 * y) % 5)) (s.getD (x + 5 * y) 0)
def rB (s : List UInt64) : Nat → List UInt64
  | 0 => List.replicate 25 0
  | x + 1 => rBIn s (rB s x) x 5
def rChiIn (b s : List UInt64) (x : Nat) : Nat → List UInt64
  | 0 => s
  | y + 1 => (rChiIn b s x y).set (x + 5 * y) (b.getD (x + 5 * y) 0 ^^^ (~~~ (b.getD ((x + 1) % 5 + 5 * y) 0) &&& b.getD ((x + 2) % 5 + 5 * y) 0))
def rChi (b s : List UInt64) : Nat → List UInt64
  | 0 => s
  | x + 1 => rChiIn b (rChi b s x) x 5
def rThA (s : List UInt64) : List UInt64 := rTh (rCols s 5) s 5
def rRhA (s : List UInt64) : List UInt64 := rRh (rThA s) 24
def rStep (s : List UInt64) (rc : UInt64) : List UInt64 := updL (rChi (rB (rRhA s) 5) (rRhA s) 5) 0 (· ^^^ rc)
theorem list25 {s : List UInt64} (h : s.length = 25) : ∃ a0 a1 a2 a3 a4 a5 a6 a7 a8 a9 b0 b1 b2 b3 b4 b5 b6 b7 b8 b9 c0 c1 c2 c3 c4, s = [a0, a1, a2, a3, a4, a5, a6, a7, a8, a9, b0, b1, b2, b3, b4, b5, b6, b7, b8, b9, c0, c1, c2, c3, c4] := by
  match s, h with
  | [a0, a1, a2, a3, a4, a5, a6, a7, a8, a9, b0, b1, b2, b3, b4, b5, b6, b7, b8, b9, c0, c1, c2, c3, c4], _ => exact ⟨_, _, _, _, _, _, _, _, _, _, _, _, _, _, _, _, _, _, _, _, _, _, _, _, _, rfl⟩
theorem list5 {s : List UInt64} (h : s.length = 5) : ∃ a0 a1 a2 a3 a4, s = [a0, a1, a2, a3, a4] := by
  match s, h with
  | [a0, a1, a2, a3, a4], _ => exact ⟨_, _, _, _, _, rfl⟩
theorem cols_eq {s : List UInt64} (h : s.length = 25) : rCols s 5 = kCols s 25 := by
  obtain ⟨a0, a1, a2, a3, a4, a5, a6, a7, a8, a9, b0, b1, b2, b3, b4, b5, b6, b7, b8, b9, c0, c1, c2, c3, c4, rfl⟩ := list25 h
  kernel_rfl
theorem theta_eq {c s : List UInt64} (hc : c.length = 5) (h : s.length = 25) : rTh c s 5 = kTheta c s 25 := by
  obtain ⟨a0, a1, a2, a3, a4, a5, a6, a7, a8, a9, b0, b1, b2, b3, b4, b5, b6, b7, b8, b9, c0, c1, c2, c3, c4, rfl⟩ := list25 h
  obtain ⟨d0, d1, d2, d3, d4, rfl⟩ := list5 hc
  kernel_rfl
theorem rotl0 (x : UInt64) : rotl x 0 = x := by
  unfold rotl shl64 shr64
  have h1 : x.toNat / 2 ^ (64 - 0) = 0 := Nat.div_eq_of_lt x.toNat_lt
  rw [h1, Nat.pow_zero, Nat.mul_one]
  apply UInt64.toNat_inj.1
  simp
theorem rho_eq {s : List UInt64} (h : s.length = 25) : rB (rRh s 24) 5 = kRho s 25 := by
  obtain ⟨a0, a1, a2, a3, a4, a5, a6, a7, a8, a9, b0, b1, b2, b3, b4, b5, b6, b7, b8, b9, c0, c1, c2, c3, c4, rfl⟩ := list25 h
  have e : kRho [a0, a1, a2, a3, a4, a5, a6, a7, a8, a9, b0, b1, b2, b3, b4, b5, b6, b7, b8, b9, c0, c1, c2, c3, c4] 25 = (rB (rRh [a0, a1, a2, a3, a4, a5, a6, a7, a8, a9, b0, b1, b2, b3, b4, b5, b6, b7, b8, b9, c0, c1, c2, c3, c4] 24) 5).set 0 (rotl a0 0) := by kernel_rfl
  have e2 : rB (rRh [a0, a1, a2, a3, a4, a5, a6, a7, a8, a9, b0, b1, b2, b3, b4, b5, b6, b7, b8, b9, c0, c1, c2, c3, c4] 24) 5 = (rB (rRh [a0, a1, a2, a3, a4, a5, a6, a7, a8, a9, b0, b1, b2, b3, b4, b5, b6, b7, b8, b9, c0, c1, c2, c3, c4] 24) 5).set 0 a0 := by kernel_rfl
  rw [e, rotl0]
  exact e2
theorem chi_eq {b s t : List UInt64} (hb : b.length = 25) (h : s.length = 25) (ht : t.length = 25) : rChi b t 5 = kChi b s 25 := by
  obtain ⟨a0, a1, a2, a3, a4, a5, a6, a7, a8, a9, b0, b1, b2, b3, b4, b5, b6, b7, b8, b9, c0, c1, c2, c3, c4, rfl⟩ := list25 hb
  obtain ⟨d0, d1, d2, d3, d4, d5, d6, d7, d8, d9, e0, e1, e2, e3, e4, e5, e6, e7, e8, e9, f0, f1, f2, f3, f4, rfl⟩ := list25 h
  obtain ⟨g0, g1, g2, g3, g4, g5, g6, g7, g8, g9, h0, h1, h2, h3, h4, h5, h6, h7, h8, h9, i0, i1, i2, i3, i4, rfl⟩ := list25 ht
  kernel_rfl
theorem rThIn_length (d : UInt64) (x : Nat) (s : List UInt64) (y : Nat) : (rThIn d x s y).length = s.length := by
  induction y with
  | zero => rfl
  | succ y ih => rw [rThIn, updL_length, ih]
theorem rTh_length (c s : List UInt64) (x : Nat) : (rTh c s x).length = s.length := by
  induction x with
  | zero => rfl
  | succ x ih => rw [rTh, rThIn_length, ih]
theorem rRh_length (s : List UInt64) (t : Nat) : (rRh s t).length = s.length := by
  induction t with
  | zero => rfl
  | succ t ih => rw [rRh, updL_length, ih]
theorem rBIn_length (s b : List UInt64) (x y : Nat) : (rBIn s b x y).length = b.length := by
  induction y with
  | zero => rfl
  | succ y ih => rw [rBIn, List.length_set, ih]
theorem rB_length (s : List UInt64) (x : Nat) : (rB s x).length = 25 := by
  induction x with
  | zero => simp [rB]
  | succ x ih => rw [rB, rBIn_length, ih]
theorem rCols_length (s : List UInt64) (x : Nat) : (rCols s x).length = 5 := by
  induction x with
  | zero => simp [rCols]
  | succ x ih => rw [rCols, List.length_set, ih]
theorem rChiIn_length (b s : List UInt64) (x y : Nat) : (rChiIn b s x y).length = s.length := by
  induction y with
  | zero => rfl
  | succ y ih => rw [rChiIn, List.length_set, ih]
theorem rChi_length (b s : List UInt64) (x : Nat) : (rChi b s x).length = s.length := by
  induction x with
  | zero => rfl
  | succ x ih => rw [rChi, rChiIn_length, ih]
theorem step_eq {s : List UInt64} (h : s.length = 25) (rc : UInt64) : rStep s rc = kRound s rc := by
  have h1 : rThA s = kThetaA s := by rw [rThA, kThetaA, cols_eq h, theta_eq (kCols_length _ _) h]
  have hl : (kThetaA s).length = 25 := by rw [kThetaA, kTheta_length, h]
  have h2 : rB (rRhA s) 5 = kRho (kThetaA s) 25 := by rw [rRhA, h1, rho_eq hl]
  have h3 : (rRhA s).length = 25 := by rw [rRhA, rRh_length, h1, hl]
  rw [rStep, kRound, h2, chi_eq (kRho_length _ _) hl h3]
end Go.Proofs.YtbjnjedfoiedeaaGreatDoor
