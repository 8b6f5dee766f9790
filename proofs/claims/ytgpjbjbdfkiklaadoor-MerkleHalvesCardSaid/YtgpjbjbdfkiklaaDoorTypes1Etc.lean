/-
Contracts of functions, each proved by a walk through its code.
-/
import Derived.Test.YtgpjbjbdfkiklaaDoorEngWEtc
import Derived.Test.YtgpjbjbdfkiklaaDoorProg
import Derived.Test.YtgpjbjbdfkiklaaDoorEngIEtc
set_option linter.unusedVariables false
namespace Go.Proofs.YtgpjbjbdfkiklaaDoor
open Go.Eng
theorem hmix : Tryd.prog.follows .mixedOrders = true := by kernel_rfl
instance ti0 : TI Tryd.prog 0 (.tuple #[]) (.tuple #[]) 1 0 := ⟨Tryd.underlying0, by kernel_rfl⟩
instance ti1 : TI Tryd.prog 1 (.func #[] #[] false) (.nilFunc) 1 8 := ⟨Tryd.underlying1, by kernel_rfl⟩
instance ti2 : TI Tryd.prog 2 (.int .i64) (.int .i64 0) 1 8 := ⟨Tryd.underlying2, by kernel_rfl⟩
instance ti3 : TI Tryd.prog 3 (.int .i64) (.int .i64 0) 1 8 := ⟨Tryd.underlying3, by kernel_rfl⟩
instance ti4 : TI Tryd.prog 4 (.bool) (.bool false) 1 1 := ⟨Tryd.underlying4, by kernel_rfl⟩
instance ti5 : TI Tryd.prog 5 (.int .u8) (.int .u8 0) 1 1 := ⟨Tryd.underlying5, by kernel_rfl⟩
instance ti6 : TI Tryd.prog 6 (.int .u8) (.int .u8 0) 1 1 := ⟨Tryd.underlying6, by kernel_rfl⟩
instance ti7 : TI Tryd.prog 7 (.struct #[⟨ "x", 2, 0, false, "", "runtime", 0⟩, ⟨ "y", 3, 1, false, "", "runtime", 8⟩, ⟨ "signed", 4, 2, false, "", "runtime", 16⟩, ⟨ "code", 6, 3, false, "", "runtime", 17⟩]) (.agg #[.int .i64 0, .int .i64 0, .bool false, .int .u8 0]) 4 24 := ⟨Tryd.underlying7, by kernel_rfl⟩
instance si7 : SI Tryd.prog #[⟨ "x", 2, 0, false, "", "runtime", 0⟩, ⟨ "y", 3, 1, false, "", "runtime", 8⟩, ⟨ "signed", 4, 2, false, "", "runtime", 16⟩, ⟨ "code", 6, 3, false, "", "runtime", 17⟩] [(0, 1), (1, 1), (2, 1), (3, 1)] := ⟨fun w => by kernel_rfl⟩
instance ti8 : TI Tryd.prog 8 (.struct #[⟨ "x", 2, 0, false, "", "runtime", 0⟩, ⟨ "y", 3, 1, false, "", "runtime", 8⟩, ⟨ "signed", 4, 2, false, "", "runtime", 16⟩, ⟨ "code", 6, 3, false, "", "runtime", 17⟩]) (.agg #[.int .i64 0, .int .i64 0, .bool false, .int .u8 0]) 4 24 := ⟨Tryd.underlying8, by kernel_rfl⟩
instance ti9 : TI Tryd.prog 9 (.string) (.string ⟨#[]⟩) 1 16 := ⟨Tryd.underlying9, by kernel_rfl⟩
instance ti10 : TI Tryd.prog 10 (.string) (.string ⟨#[]⟩) 1 16 := ⟨Tryd.underlying10, by kernel_rfl⟩
instance ti11 : TI Tryd.prog 11 (.string) (.string ⟨#[]⟩) 1 16 := ⟨Tryd.underlying11, by kernel_rfl⟩
instance ti12 : TI Tryd.prog 12 (.int .u64) (.int .u64 0) 1 8 := ⟨Tryd.underlying12, by kernel_rfl⟩
instance ti13 : TI Tryd.prog 13 (.struct #[⟨ "msg", 9, 0, false, "", "runtime", 0⟩, ⟨ "addr", 12, 1, false, "", "runtime", 16⟩]) (.agg #[.string ⟨#[]⟩, .int .u64 0]) 2 24 := ⟨Tryd.underlying13, by kernel_rfl⟩
instance si13 : SI Tryd.prog #[⟨ "msg", 9, 0, false, "", "runtime", 0⟩, ⟨ "addr", 12, 1, false, "", "runtime", 16⟩] [(0, 1), (1, 1)] := ⟨fun w => by kernel_rfl⟩
instance ti14 : TI Tryd.prog 14 (.struct #[⟨ "msg", 9, 0, false, "", "runtime", 0⟩, ⟨ "addr", 12, 1, false, "", "runtime", 16⟩]) (.agg #[.string ⟨#[]⟩, .int .u64 0]) 2 24 := ⟨Tryd.underlying14, by kernel_rfl⟩
instance ti15 : TI Tryd.prog 15 (.pointer 152) (.pointer none) 1 8 := ⟨Tryd.underlying15, by kernel_rfl⟩
instance ti16 : TI Tryd.prog 16 (.pointer 155) (.pointer none) 1 8 := ⟨Tryd.underlying16, by kernel_rfl⟩
instance ti17 : TI Tryd.prog 17 (.pointer 164) (.pointer none) 1 8 := ⟨Tryd.underlying17, by kernel_rfl⟩
instance ti18 : TI Tryd.prog 18 (.struct #[⟨ "typ", 17, 0, false, "", "internal/runtime/maps", 0⟩]) (.agg #[.pointer none]) 1 8 := ⟨Tryd.underlying18, by kernel_rfl⟩
instance si18 : SI Tryd.prog #[⟨ "typ", 17, 0, false, "", "internal/runtime/maps", 0⟩] [(0, 1)] := ⟨fun w => by kernel_rfl⟩
instance ti19 : TI Tryd.prog 19 (.struct #[⟨ "typ", 17, 0, false, "", "internal/runtime/maps", 0⟩]) (.agg #[.pointer none]) 1 8 := ⟨Tryd.underlying19, by kernel_rfl⟩
instance ti20 : TI Tryd.prog 20 (.interface #[]) (.nilIface) 1 16 := ⟨Tryd.underlying20, by kernel_rfl⟩
instance ti21 : TI Tryd.prog 21 (.int .i32) (.int .i32 0) 1 4 := ⟨Tryd.underlying21, by kernel_rfl⟩
instance ti22 : TI Tryd.prog 22 (.array 2 3) (.agg #[.int .i64 0, .int .i64 0]) 2 16 := ⟨Tryd.underlying22, by kernel_rfl⟩
instance ti23 : TI Tryd.prog 23 (.slice 5) (.slice none 0 0) 1 24 := ⟨Tryd.underlying23, by kernel_rfl⟩
instance ti24 : TI Tryd.prog 24 (.int .u32) (.int .u32 0) 1 4 := ⟨Tryd.underlying24, by kernel_rfl⟩
instance ti25 : TI Tryd.prog 25 (.struct #[⟨ "Name", 23, 0, false, "", "", 0⟩, ⟨ "Q", 24, 1, false, "", "", 24⟩, ⟨ "I", 3, 2, false, "", "", 32⟩, ⟨ "From", 3, 3, false, "", "", 40⟩, ⟨ "To", 3, 4, false, "", "", 48⟩]) (.agg #[.slice none 0 0, .int .u32 0, .int .i64 0, .int .i64 0, .int .i64 0]) 5 56 := ⟨Tryd.underlying25, by kernel_rfl⟩
instance si25 : SI Tryd.prog #[⟨ "Name", 23, 0, false, "", "", 0⟩, ⟨ "Q", 24, 1, false, "", "", 24⟩, ⟨ "I", 3, 2, false, "", "", 32⟩, ⟨ "From", 3, 3, false, "", "", 40⟩, ⟨ "To", 3, 4, false, "", "", 48⟩] [(0, 1), (1, 1), (2, 1), (3, 1), (4, 1)] := ⟨fun w => by kernel_rfl⟩
instance ti26 : TI Tryd.prog 26 (.struct #[⟨ "Name", 23, 0, false, "", "", 0⟩, ⟨ "Q", 24, 1, false, "", "", 24⟩, ⟨ "I", 3, 2, false, "", "", 32⟩, ⟨ "From", 3, 3, false, "", "", 40⟩, ⟨ "To", 3, 4, false, "", "", 48⟩]) (.agg #[.slice none 0 0, .int .u32 0, .int .i64 0, .int .i64 0, .int .i64 0]) 5 56 := ⟨Tryd.underlying26, by kernel_rfl⟩
instance ti27 : TI Tryd.prog 27 (.func #[] #[4] false) (.nilFunc) 1 8 := ⟨Tryd.underlying27, by kernel_rfl⟩
instance ti28 : TI Tryd.prog 28 (.int .u16) (.int .u16 0) 1 2 := ⟨Tryd.underlying28, by kernel_rfl⟩
instance ti29 : TI Tryd.prog 29 (.func #[23, 23] #[4] false) (.nilFunc) 1 8 := ⟨Tryd.underlying29, by kernel_rfl⟩
instance ti30 : TI Tryd.prog 30 (.func #[3, 3, 52] #[23] true) (.nilFunc) 1 8 := ⟨Tryd.underlying30, by kernel_rfl⟩
instance ti31 : TI Tryd.prog 31 (.func #[3, 3, 23] #[23] false) (.nilFunc) 1 8 := ⟨Tryd.underlying31, by kernel_rfl⟩
instance ti32 : TI Tryd.prog 32 (.func #[3, 3, 23, 24, 28, 52] #[23] true) (.nilFunc) 1 8 := ⟨Tryd.underlying32, by kernel_rfl⟩
instance ti33 : TI Tryd.prog 33 (.func #[3, 3, 23, 24, 28, 23] #[23] false) (.nilFunc) 1 8 := ⟨Tryd.underlying33, by kernel_rfl⟩
instance ti34 : TI Tryd.prog 34 (.func #[22, 26, 23] #[4] false) (.nilFunc) 1 8 := ⟨Tryd.underlying34, by kernel_rfl⟩
instance ti35 : TI Tryd.prog 35 (.struct #[⟨ "Code", 24, 0, false, "", "", 0⟩, ⟨ "Kind", 3, 1, false, "", "", 8⟩, ⟨ "N", 3, 2, false, "", "", 16⟩, ⟨ "W", 3, 3, false, "", "", 24⟩, ⟨ "P", 3, 4, false, "", "", 32⟩, ⟨ "Shift", 3, 5, false, "", "", 40⟩]) (.agg #[.int .u32 0, .int .i64 0, .int .i64 0, .int .i64 0, .int .i64 0, .int .i64 0]) 6 48 := ⟨Tryd.underlying35, by kernel_rfl⟩
instance si35 : SI Tryd.prog #[⟨ "Code", 24, 0, false, "", "", 0⟩, ⟨ "Kind", 3, 1, false, "", "", 8⟩, ⟨ "N", 3, 2, false, "", "", 16⟩, ⟨ "W", 3, 3, false, "", "", 24⟩, ⟨ "P", 3, 4, false, "", "", 32⟩, ⟨ "Shift", 3, 5, false, "", "", 40⟩] [(0, 1), (1, 1), (2, 1), (3, 1), (4, 1), (5, 1)] := ⟨fun w => by kernel_rfl⟩
instance ti36 : TI Tryd.prog 36 (.struct #[⟨ "Code", 24, 0, false, "", "", 0⟩, ⟨ "Kind", 3, 1, false, "", "", 8⟩, ⟨ "N", 3, 2, false, "", "", 16⟩, ⟨ "W", 3, 3, false, "", "", 24⟩, ⟨ "P", 3, 4, false, "", "", 32⟩, ⟨ "Shift", 3, 5, false, "", "", 40⟩]) (.agg #[.int .u32 0, .int .i64 0, .int .i64 0, .int .i64 0, .int .i64 0, .int .i64 0]) 6 48 := ⟨Tryd.underlying36, by kernel_rfl⟩
instance ti37 : TI Tryd.prog 37 (.func #[36, 23, 24, 3, 3, 23] #[23] false) (.nilFunc) 1 8 := ⟨Tryd.underlying37, by kernel_rfl⟩
instance ti38 : TI Tryd.prog 38 (.func #[36, 23, 24, 3, 3, 3, 23] #[23] false) (.nilFunc) 1 8 := ⟨Tryd.underlying38, by kernel_rfl⟩
instance ti39 : TI Tryd.prog 39 (.func #[36, 26, 23] #[4] false) (.nilFunc) 1 8 := ⟨Tryd.underlying39, by kernel_rfl⟩
instance ti40 : TI Tryd.prog 40 (.int .i64) (.int .i64 0) 1 8 := ⟨Tryd.underlying40, by kernel_rfl⟩
instance ti41 : TI Tryd.prog 41 (.tuple #[36, 40]) (.tuple #[.agg #[.int .u32 0, .int .i64 0, .int .i64 0, .int .i64 0, .int .i64 0, .int .i64 0], .int .i64 0]) 1 0 := ⟨Tryd.underlying41, by kernel_rfl⟩
instance ti42 : TI Tryd.prog 42 (.func #[24] #[36, 40] false) (.nilFunc) 1 8 := ⟨Tryd.underlying42, by kernel_rfl⟩
instance ti43 : TI Tryd.prog 43 (.int .u64) (.int .u64 0) 1 8 := ⟨Tryd.underlying43, by kernel_rfl⟩
instance ti44 : TI Tryd.prog 44 (.func #[5, 26, 23] #[4] false) (.nilFunc) 1 8 := ⟨Tryd.underlying44, by kernel_rfl⟩
instance ti45 : TI Tryd.prog 45 (.slice 3) (.slice none 0 0) 1 24 := ⟨Tryd.underlying45, by kernel_rfl⟩
instance ti46 : TI Tryd.prog 46 (.func #[23] #[23] false) (.nilFunc) 1 8 := ⟨Tryd.underlying46, by kernel_rfl⟩
instance ti47 : TI Tryd.prog 47 (.func #[23, 3] #[23] false) (.nilFunc) 1 8 := ⟨Tryd.underlying47, by kernel_rfl⟩
instance ti48 : TI Tryd.prog 48 (.func #[5, 23] #[4] false) (.nilFunc) 1 8 := ⟨Tryd.underlying48, by kernel_rfl⟩
instance ti49 : TI Tryd.prog 49 (.func #[26, 23, 5] #[4] false) (.nilFunc) 1 8 := ⟨Tryd.underlying49, by kernel_rfl⟩
instance ti50 : TI Tryd.prog 50 (.struct #[⟨ "Code", 24, 0, false, "", "", 0⟩, ⟨ "Kind", 3, 1, false, "", "", 8⟩, ⟨ "N", 3, 2, false, "", "", 16⟩, ⟨ "H", 3, 3, false, "", "", 24⟩]) (.agg #[.int .u32 0, .int .i64 0, .int .i64 0, .int .i64 0]) 4 32 := ⟨Tryd.underlying50, by kernel_rfl⟩
instance si50 : SI Tryd.prog #[⟨ "Code", 24, 0, false, "", "", 0⟩, ⟨ "Kind", 3, 1, false, "", "", 8⟩, ⟨ "N", 3, 2, false, "", "", 16⟩, ⟨ "H", 3, 3, false, "", "", 24⟩] [(0, 1), (1, 1), (2, 1), (3, 1)] := ⟨fun w => by kernel_rfl⟩
instance ti51 : TI Tryd.prog 51 (.struct #[⟨ "Code", 24, 0, false, "", "", 0⟩, ⟨ "Kind", 3, 1, false, "", "", 8⟩, ⟨ "N", 3, 2, false, "", "", 16⟩, ⟨ "H", 3, 3, false, "", "", 24⟩]) (.agg #[.int .u32 0, .int .i64 0, .int .i64 0, .int .i64 0]) 4 32 := ⟨Tryd.underlying51, by kernel_rfl⟩
instance ti52 : TI Tryd.prog 52 (.slice 23) (.slice none 0 0) 1 24 := ⟨Tryd.underlying52, by kernel_rfl⟩
instance ti53 : TI Tryd.prog 53 (.struct #[⟨ "L", 52, 0, false, "", "", 0⟩, ⟨ "Q", 24, 1, false, "", "", 24⟩, ⟨ "Key", 23, 2, false, "", "", 32⟩]) (.agg #[.slice none 0 0, .int .u32 0, .slice none 0 0]) 3 56 := ⟨Tryd.underlying53, by kernel_rfl⟩
instance si53 : SI Tryd.prog #[⟨ "L", 52, 0, false, "", "", 0⟩, ⟨ "Q", 24, 1, false, "", "", 24⟩, ⟨ "Key", 23, 2, false, "", "", 32⟩] [(0, 1), (1, 1), (2, 1)] := ⟨fun w => by kernel_rfl⟩
instance ti54 : TI Tryd.prog 54 (.struct #[⟨ "L", 52, 0, false, "", "", 0⟩, ⟨ "Q", 24, 1, false, "", "", 24⟩, ⟨ "Key", 23, 2, false, "", "", 32⟩]) (.agg #[.slice none 0 0, .int .u32 0, .slice none 0 0]) 3 56 := ⟨Tryd.underlying54, by kernel_rfl⟩
instance ti55 : TI Tryd.prog 55 (.func #[52] #[4] false) (.nilFunc) 1 8 := ⟨Tryd.underlying55, by kernel_rfl⟩
instance ti56 : TI Tryd.prog 56 (.func #[51, 23, 52] #[4] false) (.nilFunc) 1 8 := ⟨Tryd.underlying56, by kernel_rfl⟩
instance ti57 : TI Tryd.prog 57 (.func #[51, 23, 52] #[23] false) (.nilFunc) 1 8 := ⟨Tryd.underlying57, by kernel_rfl⟩
instance ti58 : TI Tryd.prog 58 (.func #[52, 52] #[4] false) (.nilFunc) 1 8 := ⟨Tryd.underlying58, by kernel_rfl⟩
instance ti59 : TI Tryd.prog 59 (.func #[51, 23, 52, 24] #[52] false) (.nilFunc) 1 8 := ⟨Tryd.underlying59, by kernel_rfl⟩
instance ti60 : TI Tryd.prog 60 (.func #[51, 23, 54] #[4] false) (.nilFunc) 1 8 := ⟨Tryd.underlying60, by kernel_rfl⟩
instance ti61 : TI Tryd.prog 61 (.tuple #[23, 40]) (.tuple #[.slice none 0 0, .int .i64 0]) 1 0 := ⟨Tryd.underlying61, by kernel_rfl⟩
instance ti62 : TI Tryd.prog 62 (.func #[51, 23, 24, 23, 52] #[23, 40] false) (.nilFunc) 1 8 := ⟨Tryd.underlying62, by kernel_rfl⟩
instance ti63 : TI Tryd.prog 63 (.tuple #[51, 40]) (.tuple #[.agg #[.int .u32 0, .int .i64 0, .int .i64 0, .int .i64 0], .int .i64 0]) 1 0 := ⟨Tryd.underlying63, by kernel_rfl⟩
instance ti64 : TI Tryd.prog 64 (.func #[24] #[51, 40] false) (.nilFunc) 1 8 := ⟨Tryd.underlying64, by kernel_rfl⟩
instance ti65 : TI Tryd.prog 65 (.int .u64) (.int .u64 0) 1 8 := ⟨Tryd.underlying65, by kernel_rfl⟩
instance ti66 : TI Tryd.prog 66 (.func #[51] #[65] false) (.nilFunc) 1 8 := ⟨Tryd.underlying66, by kernel_rfl⟩
instance ti67 : TI Tryd.prog 67 (.func #[5, 23, 54] #[4] false) (.nilFunc) 1 8 := ⟨Tryd.underlying67, by kernel_rfl⟩
instance ti68 : TI Tryd.prog 68 (.func #[69] #[23] false) (.nilFunc) 1 8 := ⟨Tryd.underlying68, by kernel_rfl⟩
instance ti69 : TI Tryd.prog 69 (.func #[] #[23] false) (.nilFunc) 1 8 := ⟨Tryd.underlying69, by kernel_rfl⟩
instance ti70 : TI Tryd.prog 70 (.func #[4] #[] false) (.nilFunc) 1 8 := ⟨Tryd.underlying70, by kernel_rfl⟩
instance ti71 : TI Tryd.prog 71 (.func #[52] #[23] true) (.nilFunc) 1 8 := ⟨Tryd.underlying71, by kernel_rfl⟩
instance ti72 : TI Tryd.prog 72 (.func #[65, 3] #[23] false) (.nilFunc) 1 8 := ⟨Tryd.underlying72, by kernel_rfl⟩
instance ti73 : TI Tryd.prog 73 (.func #[36, 23, 3, 23] #[] false) (.nilFunc) 1 8 := ⟨Tryd.underlying73, by kernel_rfl⟩
instance ti74 : TI Tryd.prog 74 (.func #[36, 23, 3, 23] #[4] false) (.nilFunc) 1 8 := ⟨Tryd.underlying74, by kernel_rfl⟩
instance ti75 : TI Tryd.prog 75 (.tuple #[3, 3]) (.tuple #[.int .i64 0, .int .i64 0]) 1 0 := ⟨Tryd.underlying75, by kernel_rfl⟩
instance ti76 : TI Tryd.prog 76 (.func #[3] #[3, 3] false) (.nilFunc) 1 8 := ⟨Tryd.underlying76, by kernel_rfl⟩
instance ti77 : TI Tryd.prog 77 (.tuple #[3, 3, 3]) (.tuple #[.int .i64 0, .int .i64 0, .int .i64 0]) 1 0 := ⟨Tryd.underlying77, by kernel_rfl⟩
instance ti78 : TI Tryd.prog 78 (.func #[3, 3] #[3, 3, 3] false) (.nilFunc) 1 8 := ⟨Tryd.underlying78, by kernel_rfl⟩
instance ti79 : TI Tryd.prog 79 (.pointer 105) (.pointer none) 1 8 := ⟨Tryd.underlying79, by kernel_rfl⟩
instance ti80 : TI Tryd.prog 80 (.func #[] #[79] false) (.nilFunc) 1 8 := ⟨Tryd.underlying80, by kernel_rfl⟩
instance ti81 : TI Tryd.prog 81 (.func #[23] #[] false) (.nilFunc) 1 8 := ⟨Tryd.underlying81, by kernel_rfl⟩
instance ti82 : TI Tryd.prog 82 (.pointer 109) (.pointer none) 1 8 := ⟨Tryd.underlying82, by kernel_rfl⟩
instance ti83 : TI Tryd.prog 83 (.func #[23] #[82] false) (.nilFunc) 1 8 := ⟨Tryd.underlying83, by kernel_rfl⟩
instance ti84 : TI Tryd.prog 84 (.func #[3] #[23] false) (.nilFunc) 1 8 := ⟨Tryd.underlying84, by kernel_rfl⟩
instance ti85 : TI Tryd.prog 85 (.func #[51, 23] #[4] false) (.nilFunc) 1 8 := ⟨Tryd.underlying85, by kernel_rfl⟩
instance ti86 : TI Tryd.prog 86 (.slice 52) (.slice none 0 0) 1 24 := ⟨Tryd.underlying86, by kernel_rfl⟩
instance ti87 : TI Tryd.prog 87 (.func #[51, 23, 52] #[86] false) (.nilFunc) 1 8 := ⟨Tryd.underlying87, by kernel_rfl⟩
instance ti88 : TI Tryd.prog 88 (.func #[51, 23, 52, 24] #[23] false) (.nilFunc) 1 8 := ⟨Tryd.underlying88, by kernel_rfl⟩
instance ti89 : TI Tryd.prog 89 (.func #[52, 90] #[4] false) (.nilFunc) 1 8 := ⟨Tryd.underlying89, by kernel_rfl⟩
instance ti90 : TI Tryd.prog 90 (.func #[23] #[4] false) (.nilFunc) 1 8 := ⟨Tryd.underlying90, by kernel_rfl⟩
instance ti91 : TI Tryd.prog 91 (.func #[51, 23, 24, 23] #[23] false) (.nilFunc) 1 8 := ⟨Tryd.underlying91, by kernel_rfl⟩
instance ti92 : TI Tryd.prog 92 (.array 2 23) (.agg #[.slice none 0 0, .slice none 0 0]) 2 48 := ⟨Tryd.underlying92, by kernel_rfl⟩
instance ti93 : TI Tryd.prog 93 (.func #[51, 23, 24, 23, 23] #[23] false) (.nilFunc) 1 8 := ⟨Tryd.underlying93, by kernel_rfl⟩
instance ti94 : TI Tryd.prog 94 (.struct #[]) (.agg #[]) 0 0 := ⟨Tryd.underlying94, by kernel_rfl⟩
instance si94 : SI Tryd.prog #[] [] := ⟨fun w => by kernel_rfl⟩
instance ti95 : TI Tryd.prog 95 (.struct #[]) (.agg #[]) 0 0 := ⟨Tryd.underlying95, by kernel_rfl⟩
instance ti96 : TI Tryd.prog 96 (.array 8 24) (.agg #[.int .u32 0, .int .u32 0, .int .u32 0, .int .u32 0, .int .u32 0, .int .u32 0, .int .u32 0, .int .u32 0]) 8 32 := ⟨Tryd.underlying96, by kernel_rfl⟩
instance ti97 : TI Tryd.prog 97 (.func #[96, 23] #[96] false) (.nilFunc) 1 8 := ⟨Tryd.underlying97, by kernel_rfl⟩
instance ti98 : TI Tryd.prog 98 (.array 24 65) (.agg #[.int .u64 0, .int .u64 0, .int .u64 0, .int .u64 0, .int .u64 0, .int .u64 0, .int .u64 0, .int .u64 0, .int .u64 0, .int .u64 0, .int .u64 0, .int .u64 0, .int .u64 0, .int .u64 0, .int .u64 0, .int .u64 0, .int .u64 0, .int .u64 0, .int .u64 0, .int .u64 0, .int .u64 0, .int .u64 0, .int .u64 0, .int .u64 0]) 24 192 := ⟨Tryd.underlying98, by kernel_rfl⟩
instance ti99 : TI Tryd.prog 99 (.func #[] #[98] false) (.nilFunc) 1 8 := ⟨Tryd.underlying99, by kernel_rfl⟩
instance ti100 : TI Tryd.prog 100 (.array 25 65) (.agg #[.int .u64 0, .int .u64 0, .int .u64 0, .int .u64 0, .int .u64 0, .int .u64 0, .int .u64 0, .int .u64 0, .int .u64 0, .int .u64 0, .int .u64 0, .int .u64 0, .int .u64 0, .int .u64 0, .int .u64 0, .int .u64 0, .int .u64 0, .int .u64 0, .int .u64 0, .int .u64 0, .int .u64 0, .int .u64 0, .int .u64 0, .int .u64 0, .int .u64 0]) 25 200 := ⟨Tryd.underlying100, by kernel_rfl⟩
instance ti101 : TI Tryd.prog 101 (.func #[100, 98] #[100] false) (.nilFunc) 1 8 := ⟨Tryd.underlying101, by kernel_rfl⟩
instance ti102 : TI Tryd.prog 102 (.func #[52, 23] #[23] false) (.nilFunc) 1 8 := ⟨Tryd.underlying102, by kernel_rfl⟩
instance ti103 : TI Tryd.prog 103 (.func #[3] #[4] false) (.nilFunc) 1 8 := ⟨Tryd.underlying103, by kernel_rfl⟩
instance ti104 : TI Tryd.prog 104 (.struct #[⟨ "state", 96, 0, false, "", "tearoff/sha2", 0⟩, ⟨ "rest", 23, 8, false, "", "tearoff/sha2", 32⟩, ⟨ "n", 65, 9, false, "", "tearoff/sha2", 56⟩]) (.agg #[.int .u32 0, .int .u32 0, .int .u32 0, .int .u32 0, .int .u32 0, .int .u32 0, .int .u32 0, .int .u32 0, .slice none 0 0, .int .u64 0]) 10 64 := ⟨Tryd.underlying104, by kernel_rfl⟩
instance si104 : SI Tryd.prog #[⟨ "state", 96, 0, false, "", "tearoff/sha2", 0⟩, ⟨ "rest", 23, 8, false, "", "tearoff/sha2", 32⟩, ⟨ "n", 65, 9, false, "", "tearoff/sha2", 56⟩] [(0, 8), (8, 1), (9, 1)] := ⟨fun w => by kernel_rfl⟩
instance ti105 : TI Tryd.prog 105 (.struct #[⟨ "state", 96, 0, false, "", "tearoff/sha2", 0⟩, ⟨ "rest", 23, 8, false, "", "tearoff/sha2", 32⟩, ⟨ "n", 65, 9, false, "", "tearoff/sha2", 56⟩]) (.agg #[.int .u32 0, .int .u32 0, .int .u32 0, .int .u32 0, .int .u32 0, .int .u32 0, .int .u32 0, .int .u32 0, .slice none 0 0, .int .u64 0]) 10 64 := ⟨Tryd.underlying105, by kernel_rfl⟩
instance ti106 : TI Tryd.prog 106 (.array 64 5) (.agg #[.int .u8 0, .int .u8 0, .int .u8 0, .int .u8 0, .int .u8 0, .int .u8 0, .int .u8 0, .int .u8 0, .int .u8 0, .int .u8 0, .int .u8 0, .int .u8 0, .int .u8 0, .int .u8 0, .int .u8 0, .int .u8 0, .int .u8 0, .int .u8 0, .int .u8 0, .int .u8 0, .int .u8 0, .int .u8 0, .int .u8 0, .int .u8 0, .int .u8 0, .int .u8 0, .int .u8 0, .int .u8 0, .int .u8 0, .int .u8 0, .int .u8 0, .int .u8 0, .int .u8 0, .int .u8 0, .int .u8 0, .int .u8 0, .int .u8 0, .int .u8 0, .int .u8 0, .int .u8 0, .int .u8 0, .int .u8 0, .int .u8 0, .int .u8 0, .int .u8 0, .int .u8 0, .int .u8 0, .int .u8 0, .int .u8 0, .int .u8 0, .int .u8 0, .int .u8 0, .int .u8 0, .int .u8 0, .int .u8 0, .int .u8 0, .int .u8 0, .int .u8 0, .int .u8 0, .int .u8 0, .int .u8 0, .int .u8 0, .int .u8 0, .int .u8 0]) 64 64 := ⟨Tryd.underlying106, by kernel_rfl⟩
instance ti107 : TI Tryd.prog 107 (.func #[96, 106] #[96] false) (.nilFunc) 1 8 := ⟨Tryd.underlying107, by kernel_rfl⟩
instance ti108 : TI Tryd.prog 108 (.struct #[⟨ "s", 100, 0, false, "", "tearoff/shake", 0⟩, ⟨ "rest", 23, 25, false, "", "tearoff/shake", 200⟩]) (.agg #[.int .u64 0, .int .u64 0, .int .u64 0, .int .u64 0, .int .u64 0, .int .u64 0, .int .u64 0, .int .u64 0, .int .u64 0, .int .u64 0, .int .u64 0, .int .u64 0, .int .u64 0, .int .u64 0, .int .u64 0, .int .u64 0, .int .u64 0, .int .u64 0, .int .u64 0, .int .u64 0, .int .u64 0, .int .u64 0, .int .u64 0, .int .u64 0, .int .u64 0, .slice none 0 0]) 26 224 := ⟨Tryd.underlying108, by kernel_rfl⟩
instance si108 : SI Tryd.prog #[⟨ "s", 100, 0, false, "", "tearoff/shake", 0⟩, ⟨ "rest", 23, 25, false, "", "tearoff/shake", 200⟩] [(0, 25), (25, 1)] := ⟨fun w => by kernel_rfl⟩
instance ti109 : TI Tryd.prog 109 (.struct #[⟨ "s", 100, 0, false, "", "tearoff/shake", 0⟩, ⟨ "rest", 23, 25, false, "", "tearoff/shake", 200⟩]) (.agg #[.int .u64 0, .int .u64 0, .int .u64 0, .int .u64 0, .int .u64 0, .int .u64 0, .int .u64 0, .int .u64 0, .int .u64 0, .int .u64 0, .int .u64 0, .int .u64 0, .int .u64 0, .int .u64 0, .int .u64 0, .int .u64 0, .int .u64 0, .int .u64 0, .int .u64 0, .int .u64 0, .int .u64 0, .int .u64 0, .int .u64 0, .int .u64 0, .int .u64 0, .slice none 0 0]) 26 224 := ⟨Tryd.underlying109, by kernel_rfl⟩
instance ti110 : TI Tryd.prog 110 (.func #[100, 23] #[100] false) (.nilFunc) 1 8 := ⟨Tryd.underlying110, by kernel_rfl⟩
instance ti111 : TI Tryd.prog 111 (.func #[100] #[23] false) (.nilFunc) 1 8 := ⟨Tryd.underlying111, by kernel_rfl⟩
instance ti112 : TI Tryd.prog 112 (.func #[100] #[100] false) (.nilFunc) 1 8 := ⟨Tryd.underlying112, by kernel_rfl⟩
instance ti113 : TI Tryd.prog 113 (.func #[134] #[] false) (.nilFunc) 1 8 := ⟨Tryd.underlying113, by kernel_rfl⟩
instance ti114 : TI Tryd.prog 114 (.func #[134] #[] false) (.nilFunc) 1 8 := ⟨Tryd.underlying114, by kernel_rfl⟩
instance ti115 : TI Tryd.prog 115 (.func #[52] #[114] false) (.nilFunc) 1 8 := ⟨Tryd.underlying115, by kernel_rfl⟩
instance ti116 : TI Tryd.prog 116 (.func #[52, 90] #[3] false) (.nilFunc) 1 8 := ⟨Tryd.underlying116, by kernel_rfl⟩
instance ti117 : TI Tryd.prog 117 (.array 64 24) (.agg #[.int .u32 0, .int .u32 0, .int .u32 0, .int .u32 0, .int .u32 0, .int .u32 0, .int .u32 0, .int .u32 0, .int .u32 0, .int .u32 0, .int .u32 0, .int .u32 0, .int .u32 0, .int .u32 0, .int .u32 0, .int .u32 0, .int .u32 0, .int .u32 0, .int .u32 0, .int .u32 0, .int .u32 0, .int .u32 0, .int .u32 0, .int .u32 0, .int .u32 0, .int .u32 0, .int .u32 0, .int .u32 0, .int .u32 0, .int .u32 0, .int .u32 0, .int .u32 0, .int .u32 0, .int .u32 0, .int .u32 0, .int .u32 0, .int .u32 0, .int .u32 0, .int .u32 0, .int .u32 0, .int .u32 0, .int .u32 0, .int .u32 0, .int .u32 0, .int .u32 0, .int .u32 0, .int .u32 0, .int .u32 0, .int .u32 0, .int .u32 0, .int .u32 0, .int .u32 0, .int .u32 0, .int .u32 0, .int .u32 0, .int .u32 0, .int .u32 0, .int .u32 0, .int .u32 0, .int .u32 0, .int .u32 0, .int .u32 0, .int .u32 0, .int .u32 0]) 64 256 := ⟨Tryd.underlying117, by kernel_rfl⟩
instance ti118 : TI Tryd.prog 118 (.func #[] #[117] false) (.nilFunc) 1 8 := ⟨Tryd.underlying118, by kernel_rfl⟩
instance ti119 : TI Tryd.prog 119 (.func #[24, 24] #[24] false) (.nilFunc) 1 8 := ⟨Tryd.underlying119, by kernel_rfl⟩
instance ti120 : TI Tryd.prog 120 (.func #[100, 65] #[100] false) (.nilFunc) 1 8 := ⟨Tryd.underlying120, by kernel_rfl⟩
instance ti121 : TI Tryd.prog 121 (.func #[127] #[36, 40] false) (.nilFunc) 1 8 := ⟨Tryd.underlying121, by kernel_rfl⟩
instance ti122 : TI Tryd.prog 122 (.struct #[⟨ "kind", 3, 0, false, "", "tearoff/sets", 0⟩, ⟨ "n", 3, 1, false, "", "tearoff/sets", 8⟩]) (.agg #[.int .i64 0, .int .i64 0]) 2 16 := ⟨Tryd.underlying122, by kernel_rfl⟩
instance si122 : SI Tryd.prog #[⟨ "kind", 3, 0, false, "", "tearoff/sets", 0⟩, ⟨ "n", 3, 1, false, "", "tearoff/sets", 8⟩] [(0, 1), (1, 1)] := ⟨fun w => by kernel_rfl⟩
instance ti123 : TI Tryd.prog 123 (.struct #[⟨ "kind", 3, 0, false, "", "tearoff/sets", 0⟩, ⟨ "n", 3, 1, false, "", "tearoff/sets", 8⟩]) (.agg #[.int .i64 0, .int .i64 0]) 2 16 := ⟨Tryd.underlying123, by kernel_rfl⟩
instance ti124 : TI Tryd.prog 124 (.tuple #[123, 3]) (.tuple #[.agg #[.int .i64 0, .int .i64 0], .int .i64 0]) 1 0 := ⟨Tryd.underlying124, by kernel_rfl⟩
instance ti125 : TI Tryd.prog 125 (.func #[24, 24, 3] #[123, 3] false) (.nilFunc) 1 8 := ⟨Tryd.underlying125, by kernel_rfl⟩
instance ti126 : TI Tryd.prog 126 (.array 4 3) (.agg #[.int .i64 0, .int .i64 0, .int .i64 0, .int .i64 0]) 4 32 := ⟨Tryd.underlying126, by kernel_rfl⟩
instance ti127 : TI Tryd.prog 127 (.func #[] #[36] false) (.nilFunc) 1 8 := ⟨Tryd.underlying127, by kernel_rfl⟩
instance ti128 : TI Tryd.prog 128 (.func #[106] #[117] false) (.nilFunc) 1 8 := ⟨Tryd.underlying128, by kernel_rfl⟩
instance ti129 : TI Tryd.prog 129 (.func #[24, 3] #[24] false) (.nilFunc) 1 8 := ⟨Tryd.underlying129, by kernel_rfl⟩
instance ti130 : TI Tryd.prog 130 (.func #[100, 3] #[100] false) (.nilFunc) 1 8 := ⟨Tryd.underlying130, by kernel_rfl⟩
instance ti131 : TI Tryd.prog 131 (.func #[133] #[51, 40] false) (.nilFunc) 1 8 := ⟨Tryd.underlying131, by kernel_rfl⟩
instance ti132 : TI Tryd.prog 132 (.array 5 3) (.agg #[.int .i64 0, .int .i64 0, .int .i64 0, .int .i64 0, .int .i64 0]) 5 40 := ⟨Tryd.underlying132, by kernel_rfl⟩
instance ti133 : TI Tryd.prog 133 (.func #[] #[51] false) (.nilFunc) 1 8 := ⟨Tryd.underlying133, by kernel_rfl⟩
instance ti134 : TI Tryd.prog 134 (.func #[3, 92] #[4] false) (.nilFunc) 1 8 := ⟨Tryd.underlying134, by kernel_rfl⟩
instance ti135 : TI Tryd.prog 135 (.array 5 65) (.agg #[.int .u64 0, .int .u64 0, .int .u64 0, .int .u64 0, .int .u64 0]) 5 40 := ⟨Tryd.underlying135, by kernel_rfl⟩
instance ti136 : TI Tryd.prog 136 (.func #[65, 3] #[65] false) (.nilFunc) 1 8 := ⟨Tryd.underlying136, by kernel_rfl⟩
instance ti137 : TI Tryd.prog 137 (.struct #[]) (.agg #[]) 0 0 := ⟨Tryd.underlying137, by kernel_rfl⟩
instance ti138 : TI Tryd.prog 138 (.array 4 123) (.agg #[.int .i64 0, .int .i64 0, .int .i64 0, .int .i64 0, .int .i64 0, .int .i64 0, .int .i64 0, .int .i64 0]) 8 64 := ⟨Tryd.underlying138, by kernel_rfl⟩
instance ti139 : TI Tryd.prog 139 (.func #[43] #[3] false) (.nilFunc) 1 8 := ⟨Tryd.underlying139, by kernel_rfl⟩
instance ti140 : TI Tryd.prog 140 (.tuple #[65, 4]) (.tuple #[.int .u64 0, .bool false]) 1 0 := ⟨Tryd.underlying140, by kernel_rfl⟩
instance ti141 : TI Tryd.prog 141 (.func #[23] #[65, 4] false) (.nilFunc) 1 8 := ⟨Tryd.underlying141, by kernel_rfl⟩
instance ti142 : TI Tryd.prog 142 (.func #[143] #[] false) (.nilFunc) 1 8 := ⟨Tryd.underlying142, by kernel_rfl⟩
instance ti143 : TI Tryd.prog 143 (.pointer 100) (.pointer none) 1 8 := ⟨Tryd.underlying143, by kernel_rfl⟩
instance ti144 : TI Tryd.prog 144 (.array 25 3) (.agg #[.int .i64 0, .int .i64 0, .int .i64 0, .int .i64 0, .int .i64 0, .int .i64 0, .int .i64 0, .int .i64 0, .int .i64 0, .int .i64 0, .int .i64 0, .int .i64 0, .int .i64 0, .int .i64 0, .int .i64 0, .int .i64 0, .int .i64 0, .int .i64 0, .int .i64 0, .int .i64 0, .int .i64 0, .int .i64 0, .int .i64 0, .int .i64 0, .int .i64 0]) 25 200 := ⟨Tryd.underlying144, by kernel_rfl⟩
instance ti145 : TI Tryd.prog 145 (.func #[] #[126] false) (.nilFunc) 1 8 := ⟨Tryd.underlying145, by kernel_rfl⟩
instance ti146 : TI Tryd.prog 146 (.func #[45, 3] #[4] false) (.nilFunc) 1 8 := ⟨Tryd.underlying146, by kernel_rfl⟩
instance ti147 : TI Tryd.prog 147 (.func #[24] #[3] false) (.nilFunc) 1 8 := ⟨Tryd.underlying147, by kernel_rfl⟩
instance ti148 : TI Tryd.prog 148 (.func #[65] #[3] false) (.nilFunc) 1 8 := ⟨Tryd.underlying148, by kernel_rfl⟩
instance ti149 : TI Tryd.prog 149 (.func #[45, 3] #[3] false) (.nilFunc) 1 8 := ⟨Tryd.underlying149, by kernel_rfl⟩
instance ti150 : TI Tryd.prog 150 (.func #[] #[9] false) (.nilFunc) 1 8 := ⟨Tryd.underlying150, by kernel_rfl⟩
instance ti151 : TI Tryd.prog 151 (.struct #[⟨ "_interface", 17, 0, false, "", "runtime", 0⟩, ⟨ "concrete", 17, 1, false, "", "runtime", 8⟩, ⟨ "asserted", 17, 2, false, "", "runtime", 16⟩, ⟨ "missingMethod", 9, 3, false, "", "runtime", 24⟩]) (.agg #[.pointer none, .pointer none, .pointer none, .string ⟨#[]⟩]) 4 40 := ⟨Tryd.underlying151, by kernel_rfl⟩
instance si151 : SI Tryd.prog #[⟨ "_interface", 17, 0, false, "", "runtime", 0⟩, ⟨ "concrete", 17, 1, false, "", "runtime", 8⟩, ⟨ "asserted", 17, 2, false, "", "runtime", 16⟩, ⟨ "missingMethod", 9, 3, false, "", "runtime", 24⟩] [(0, 1), (1, 1), (2, 1), (3, 1)] := ⟨fun w => by kernel_rfl⟩
instance ti152 : TI Tryd.prog 152 (.struct #[⟨ "_interface", 17, 0, false, "", "runtime", 0⟩, ⟨ "concrete", 17, 1, false, "", "runtime", 8⟩, ⟨ "asserted", 17, 2, false, "", "runtime", 16⟩, ⟨ "missingMethod", 9, 3, false, "", "runtime", 24⟩]) (.agg #[.pointer none, .pointer none, .pointer none, .string ⟨#[]⟩]) 4 40 := ⟨Tryd.underlying152, by kernel_rfl⟩
instance ti153 : TI Tryd.prog 153 (.array 0 16) (.agg #[]) 0 0 := ⟨Tryd.underlying153, by kernel_rfl⟩
instance ti154 : TI Tryd.prog 154 (.struct #[⟨ "_", 153, 0, false, "", "runtime", 0⟩]) (.agg #[]) 0 0 := ⟨Tryd.underlying154, by kernel_rfl⟩
instance si154 : SI Tryd.prog #[⟨ "_", 153, 0, false, "", "runtime", 0⟩] [(0, 0)] := ⟨fun w => by kernel_rfl⟩
instance ti155 : TI Tryd.prog 155 (.struct #[⟨ "_", 153, 0, false, "", "runtime", 0⟩]) (.agg #[]) 0 0 := ⟨Tryd.underlying155, by kernel_rfl⟩
instance ti156 : TI Tryd.prog 156 (.func #[] #[3] false) (.nilFunc) 1 8 := ⟨Tryd.underlying156, by kernel_rfl⟩
instance ti157 : TI Tryd.prog 157 (.int .u8) (.int .u8 0) 1 1 := ⟨Tryd.underlying157, by kernel_rfl⟩
instance ti158 : TI Tryd.prog 158 (.int .u8) (.int .u8 0) 1 1 := ⟨Tryd.underlying158, by kernel_rfl⟩
instance ti159 : TI Tryd.prog 159 (.func #[165, 165] #[4] false) (.nilFunc) 1 8 := ⟨Tryd.underlying159, by kernel_rfl⟩
instance ti160 : TI Tryd.prog 160 (.pointer 5) (.pointer none) 1 8 := ⟨Tryd.underlying160, by kernel_rfl⟩
instance ti161 : TI Tryd.prog 161 (.int .i32) (.int .i32 0) 1 4 := ⟨Tryd.underlying161, by kernel_rfl⟩
instance ti162 : TI Tryd.prog 162 (.int .i32) (.int .i32 0) 1 4 := ⟨Tryd.underlying162, by kernel_rfl⟩
instance ti163 : TI Tryd.prog 163 (.struct #[⟨ "Size_", 12, 0, false, "", "", 0⟩, ⟨ "PtrBytes", 12, 1, false, "", "", 8⟩, ⟨ "Hash", 24, 2, false, "", "", 16⟩, ⟨ "TFlag", 157, 3, false, "", "", 20⟩, ⟨ "Align_", 5, 4, false, "", "", 21⟩, ⟨ "FieldAlign_", 5, 5, false, "", "", 22⟩, ⟨ "Kind_", 158, 6, false, "", "", 23⟩, ⟨ "Equal", 159, 7, false, "", "", 24⟩, ⟨ "GCData", 160, 8, false, "", "", 32⟩, ⟨ "Str", 161, 9, false, "", "", 40⟩, ⟨ "PtrToThis", 162, 10, false, "", "", 44⟩]) (.agg #[.int .u64 0, .int .u64 0, .int .u32 0, .int .u8 0, .int .u8 0, .int .u8 0, .int .u8 0, .nilFunc, .pointer none, .int .i32 0, .int .i32 0]) 11 48 := ⟨Tryd.underlying163, by kernel_rfl⟩
instance si163 : SI Tryd.prog #[⟨ "Size_", 12, 0, false, "", "", 0⟩, ⟨ "PtrBytes", 12, 1, false, "", "", 8⟩, ⟨ "Hash", 24, 2, false, "", "", 16⟩, ⟨ "TFlag", 157, 3, false, "", "", 20⟩, ⟨ "Align_", 5, 4, false, "", "", 21⟩, ⟨ "FieldAlign_", 5, 5, false, "", "", 22⟩, ⟨ "Kind_", 158, 6, false, "", "", 23⟩, ⟨ "Equal", 159, 7, false, "", "", 24⟩, ⟨ "GCData", 160, 8, false, "", "", 32⟩, ⟨ "Str", 161, 9, false, "", "", 40⟩, ⟨ "PtrToThis", 162, 10, false, "", "", 44⟩] [(0, 1), (1, 1), (2, 1), (3, 1), (4, 1), (5, 1), (6, 1), (7, 1), (8, 1), (9, 1), (10, 1)] := ⟨fun w => by kernel_rfl⟩
instance ti164 : TI Tryd.prog 164 (.struct #[⟨ "Size_", 12, 0, false, "", "", 0⟩, ⟨ "PtrBytes", 12, 1, false, "", "", 8⟩, ⟨ "Hash", 24, 2, false, "", "", 16⟩, ⟨ "TFlag", 157, 3, false, "", "", 20⟩, ⟨ "Align_", 5, 4, false, "", "", 21⟩, ⟨ "FieldAlign_", 5, 5, false, "", "", 22⟩, ⟨ "Kind_", 158, 6, false, "", "", 23⟩, ⟨ "Equal", 159, 7, false, "", "", 24⟩, ⟨ "GCData", 160, 8, false, "", "", 32⟩, ⟨ "Str", 161, 9, false, "", "", 40⟩, ⟨ "PtrToThis", 162, 10, false, "", "", 44⟩]) (.agg #[.int .u64 0, .int .u64 0, .int .u32 0, .int .u8 0, .int .u8 0, .int .u8 0, .int .u8 0, .nilFunc, .pointer none, .int .i32 0, .int .i32 0]) 11 48 := ⟨Tryd.underlying164, by kernel_rfl⟩
instance ti165 : TI Tryd.prog 165 (.unsafePointer) (.pointer none) 1 8 := ⟨Tryd.underlying165, by kernel_rfl⟩
instance fo7_0 : FO Tryd.prog 7 0 0 1 false := ⟨_, _, _, _, _, Tryd.underlying7, rfl, ti2, rfl, rfl, by decide⟩
instance fo7_1 : FO Tryd.prog 7 1 1 1 false := ⟨_, _, _, _, _, Tryd.underlying7, rfl, ti3, rfl, rfl, by decide⟩
instance fo7_2 : FO Tryd.prog 7 2 2 1 false := ⟨_, _, _, _, _, Tryd.underlying7, rfl, ti4, rfl, rfl, by decide⟩
instance fo7_3 : FO Tryd.prog 7 3 3 1 false := ⟨_, _, _, _, _, Tryd.underlying7, rfl, ti6, rfl, rfl, by decide⟩
instance fo8_0 : FO Tryd.prog 8 0 0 1 false := ⟨_, _, _, _, _, Tryd.underlying8, rfl, ti2, rfl, rfl, by decide⟩
instance fo8_1 : FO Tryd.prog 8 1 1 1 false := ⟨_, _, _, _, _, Tryd.underlying8, rfl, ti3, rfl, rfl, by decide⟩
instance fo8_2 : FO Tryd.prog 8 2 2 1 false := ⟨_, _, _, _, _, Tryd.underlying8, rfl, ti4, rfl, rfl, by decide⟩
instance fo8_3 : FO Tryd.prog 8 3 3 1 false := ⟨_, _, _, _, _, Tryd.underlying8, rfl, ti6, rfl, rfl, by decide⟩
instance fo13_0 : FO Tryd.prog 13 0 0 1 false := ⟨_, _, _, _, _, Tryd.underlying13, rfl, ti9, rfl, rfl, by decide⟩
instance fo13_1 : FO Tryd.prog 13 1 1 1 false := ⟨_, _, _, _, _, Tryd.underlying13, rfl, ti12, rfl, rfl, by decide⟩
instance fo14_0 : FO Tryd.prog 14 0 0 1 false := ⟨_, _, _, _, _, Tryd.underlying14, rfl, ti9, rfl, rfl, by decide⟩
instance fo14_1 : FO Tryd.prog 14 1 1 1 false := ⟨_, _, _, _, _, Tryd.underlying14, rfl, ti12, rfl, rfl, by decide⟩
instance fo18_0 : FO Tryd.prog 18 0 0 1 false := ⟨_, _, _, _, _, Tryd.underlying18, rfl, ti17, rfl, rfl, by decide⟩
instance fo19_0 : FO Tryd.prog 19 0 0 1 false := ⟨_, _, _, _, _, Tryd.underlying19, rfl, ti17, rfl, rfl, by decide⟩
instance fo25_0 : FO Tryd.prog 25 0 0 1 false := ⟨_, _, _, _, _, Tryd.underlying25, rfl, ti23, rfl, rfl, by decide⟩
instance fo25_1 : FO Tryd.prog 25 1 1 1 false := ⟨_, _, _, _, _, Tryd.underlying25, rfl, ti24, rfl, rfl, by decide⟩
instance fo25_2 : FO Tryd.prog 25 2 2 1 false := ⟨_, _, _, _, _, Tryd.underlying25, rfl, ti3, rfl, rfl, by decide⟩
instance fo25_3 : FO Tryd.prog 25 3 3 1 false := ⟨_, _, _, _, _, Tryd.underlying25, rfl, ti3, rfl, rfl, by decide⟩
instance fo25_4 : FO Tryd.prog 25 4 4 1 false := ⟨_, _, _, _, _, Tryd.underlying25, rfl, ti3, rfl, rfl, by decide⟩
instance fo26_0 : FO Tryd.prog 26 0 0 1 false := ⟨_, _, _, _, _, Tryd.underlying26, rfl, ti23, rfl, rfl, by decide⟩
instance fo26_1 : FO Tryd.prog 26 1 1 1 false := ⟨_, _, _, _, _, Tryd.underlying26, rfl, ti24, rfl, rfl, by decide⟩
instance fo26_2 : FO Tryd.prog 26 2 2 1 false := ⟨_, _, _, _, _, Tryd.underlying26, rfl, ti3, rfl, rfl, by decide⟩
instance fo26_3 : FO Tryd.prog 26 3 3 1 false := ⟨_, _, _, _, _, Tryd.underlying26, rfl, ti3, rfl, rfl, by decide⟩
instance fo26_4 : FO Tryd.prog 26 4 4 1 false := ⟨_, _, _, _, _, Tryd.underlying26, rfl, ti3, rfl, rfl, by decide⟩
instance fo35_0 : FO Tryd.prog 35 0 0 1 false := ⟨_, _, _, _, _, Tryd.underlying35, rfl, ti24, rfl, rfl, by decide⟩
instance fo35_1 : FO Tryd.prog 35 1 1 1 false := ⟨_, _, _, _, _, Tryd.underlying35, rfl, ti3, rfl, rfl, by decide⟩
instance fo35_2 : FO Tryd.prog 35 2 2 1 false := ⟨_, _, _, _, _, Tryd.underlying35, rfl, ti3, rfl, rfl, by decide⟩
instance fo35_3 : FO Tryd.prog 35 3 3 1 false := ⟨_, _, _, _, _, Tryd.underlying35, rfl, ti3, rfl, rfl, by decide⟩
instance fo35_4 : FO Tryd.prog 35 4 4 1 false := ⟨_, _, _, _, _, Tryd.underlying35, rfl, ti3, rfl, rfl, by decide⟩
instance fo35_5 : FO Tryd.prog 35 5 5 1 false := ⟨_, _, _, _, _, Tryd.underlying35, rfl, ti3, rfl, rfl, by decide⟩
instance fo36_0 : FO Tryd.prog 36 0 0 1 false := ⟨_, _, _, _, _, Tryd.underlying36, rfl, ti24, rfl, rfl, by decide⟩
instance fo36_1 : FO Tryd.prog 36 1 1 1 false := ⟨_, _, _, _, _, Tryd.underlying36, rfl, ti3, rfl, rfl, by decide⟩
instance fo36_2 : FO Tryd.prog 36 2 2 1 false := ⟨_, _, _, _, _, Tryd.underlying36, rfl, ti3, rfl, rfl, by decide⟩
instance fo36_3 : FO Tryd.prog 36 3 3 1 false := ⟨_, _, _, _, _, Tryd.underlying36, rfl, ti3, rfl, rfl, by decide⟩
instance fo36_4 : FO Tryd.prog 36 4 4 1 false := ⟨_, _, _, _, _, Tryd.underlying36, rfl, ti3, rfl, rfl, by decide⟩
instance fo36_5 : FO Tryd.prog 36 5 5 1 false := ⟨_, _, _, _, _, Tryd.underlying36, rfl, ti3, rfl, rfl, by decide⟩
instance fo50_0 : FO Tryd.prog 50 0 0 1 false := ⟨_, _, _, _, _, Tryd.underlying50, rfl, ti24, rfl, rfl, by decide⟩
instance fo50_1 : FO Tryd.prog 50 1 1 1 false := ⟨_, _, _, _, _, Tryd.underlying50, rfl, ti3, rfl, rfl, by decide⟩
instance fo50_2 : FO Tryd.prog 50 2 2 1 false := ⟨_, _, _, _, _, Tryd.underlying50, rfl, ti3, rfl, rfl, by decide⟩
instance fo50_3 : FO Tryd.prog 50 3 3 1 false := ⟨_, _, _, _, _, Tryd.underlying50, rfl, ti3, rfl, rfl, by decide⟩
instance fo51_0 : FO Tryd.prog 51 0 0 1 false := ⟨_, _, _, _, _, Tryd.underlying51, rfl, ti24, rfl, rfl, by decide⟩
instance fo51_1 : FO Tryd.prog 51 1 1 1 false := ⟨_, _, _, _, _, Tryd.underlying51, rfl, ti3, rfl, rfl, by decide⟩
instance fo51_2 : FO Tryd.prog 51 2 2 1 false := ⟨_, _, _, _, _, Tryd.underlying51, rfl, ti3, rfl, rfl, by decide⟩
instance fo51_3 : FO Tryd.prog 51 3 3 1 false := ⟨_, _, _, _, _, Tryd.underlying51, rfl, ti3, rfl, rfl, by decide⟩
instance fo53_0 : FO Tryd.prog 53 0 0 1 false := ⟨_, _, _, _, _, Tryd.underlying53, rfl, ti52, rfl, rfl, by decide⟩
instance fo53_1 : FO Tryd.prog 53 1 1 1 false := ⟨_, _, _, _, _, Tryd.underlying53, rfl, ti24, rfl, rfl, by decide⟩
instance fo53_2 : FO Tryd.prog 53 2 2 1 false := ⟨_, _, _, _, _, Tryd.underlying53, rfl, ti23, rfl, rfl, by decide⟩
instance fo54_0 : FO Tryd.prog 54 0 0 1 false := ⟨_, _, _, _, _, Tryd.underlying54, rfl, ti52, rfl, rfl, by decide⟩
instance fo54_1 : FO Tryd.prog 54 1 1 1 false := ⟨_, _, _, _, _, Tryd.underlying54, rfl, ti24, rfl, rfl, by decide⟩
instance fo54_2 : FO Tryd.prog 54 2 2 1 false := ⟨_, _, _, _, _, Tryd.underlying54, rfl, ti23, rfl, rfl, by decide⟩
instance fo104_0 : FO Tryd.prog 104 0 0 8 true := ⟨_, _, _, _, _, Tryd.underlying104, rfl, ti96, rfl, rfl, by decide⟩
instance fo104_1 : FO Tryd.prog 104 1 8 1 false := ⟨_, _, _, _, _, Tryd.underlying104, rfl, ti23, rfl, rfl, by decide⟩
instance fo104_2 : FO Tryd.prog 104 2 9 1 false := ⟨_, _, _, _, _, Tryd.underlying104, rfl, ti65, rfl, rfl, by decide⟩
instance fo105_0 : FO Tryd.prog 105 0 0 8 true := ⟨_, _, _, _, _, Tryd.underlying105, rfl, ti96, rfl, rfl, by decide⟩
instance fo105_1 : FO Tryd.prog 105 1 8 1 false := ⟨_, _, _, _, _, Tryd.underlying105, rfl, ti23, rfl, rfl, by decide⟩
instance fo105_2 : FO Tryd.prog 105 2 9 1 false := ⟨_, _, _, _, _, Tryd.underlying105, rfl, ti65, rfl, rfl, by decide⟩
instance fo108_0 : FO Tryd.prog 108 0 0 25 true := ⟨_, _, _, _, _, Tryd.underlying108, rfl, ti100, rfl, rfl, by decide⟩
instance fo108_1 : FO Tryd.prog 108 1 25 1 false := ⟨_, _, _, _, _, Tryd.underlying108, rfl, ti23, rfl, rfl, by decide⟩
instance fo109_0 : FO Tryd.prog 109 0 0 25 true := ⟨_, _, _, _, _, Tryd.underlying109, rfl, ti100, rfl, rfl, by decide⟩
instance fo109_1 : FO Tryd.prog 109 1 25 1 false := ⟨_, _, _, _, _, Tryd.underlying109, rfl, ti23, rfl, rfl, by decide⟩
instance fo122_0 : FO Tryd.prog 122 0 0 1 false := ⟨_, _, _, _, _, Tryd.underlying122, rfl, ti3, rfl, rfl, by decide⟩
instance fo122_1 : FO Tryd.prog 122 1 1 1 false := ⟨_, _, _, _, _, Tryd.underlying122, rfl, ti3, rfl, rfl, by decide⟩
instance fo123_0 : FO Tryd.prog 123 0 0 1 false := ⟨_, _, _, _, _, Tryd.underlying123, rfl, ti3, rfl, rfl, by decide⟩
instance fo123_1 : FO Tryd.prog 123 1 1 1 false := ⟨_, _, _, _, _, Tryd.underlying123, rfl, ti3, rfl, rfl, by decide⟩
instance fo151_0 : FO Tryd.prog 151 0 0 1 false := ⟨_, _, _, _, _, Tryd.underlying151, rfl, ti17, rfl, rfl, by decide⟩
instance fo151_1 : FO Tryd.prog 151 1 1 1 false := ⟨_, _, _, _, _, Tryd.underlying151, rfl, ti17, rfl, rfl, by decide⟩
instance fo151_2 : FO Tryd.prog 151 2 2 1 false := ⟨_, _, _, _, _, Tryd.underlying151, rfl, ti17, rfl, rfl, by decide⟩
instance fo151_3 : FO Tryd.prog 151 3 3 1 false := ⟨_, _, _, _, _, Tryd.underlying151, rfl, ti9, rfl, rfl, by decide⟩
instance fo152_0 : FO Tryd.prog 152 0 0 1 false := ⟨_, _, _, _, _, Tryd.underlying152, rfl, ti17, rfl, rfl, by decide⟩
instance fo152_1 : FO Tryd.prog 152 1 1 1 false := ⟨_, _, _, _, _, Tryd.underlying152, rfl, ti17, rfl, rfl, by decide⟩
instance fo152_2 : FO Tryd.prog 152 2 2 1 false := ⟨_, _, _, _, _, Tryd.underlying152, rfl, ti17, rfl, rfl, by decide⟩
instance fo152_3 : FO Tryd.prog 152 3 3 1 false := ⟨_, _, _, _, _, Tryd.underlying152, rfl, ti9, rfl, rfl, by decide⟩
instance fo163_0 : FO Tryd.prog 163 0 0 1 false := ⟨_, _, _, _, _, Tryd.underlying163, rfl, ti12, rfl, rfl, by decide⟩
instance fo163_1 : FO Tryd.prog 163 1 1 1 false := ⟨_, _, _, _, _, Tryd.underlying163, rfl, ti12, rfl, rfl, by decide⟩
instance fo163_2 : FO Tryd.prog 163 2 2 1 false := ⟨_, _, _, _, _, Tryd.underlying163, rfl, ti24, rfl, rfl, by decide⟩
instance fo163_3 : FO Tryd.prog 163 3 3 1 false := ⟨_, _, _, _, _, Tryd.underlying163, rfl, ti157, rfl, rfl, by decide⟩
instance fo163_4 : FO Tryd.prog 163 4 4 1 false := ⟨_, _, _, _, _, Tryd.underlying163, rfl, ti5, rfl, rfl, by decide⟩
instance fo163_5 : FO Tryd.prog 163 5 5 1 false := ⟨_, _, _, _, _, Tryd.underlying163, rfl, ti5, rfl, rfl, by decide⟩
instance fo163_6 : FO Tryd.prog 163 6 6 1 false := ⟨_, _, _, _, _, Tryd.underlying163, rfl, ti158, rfl, rfl, by decide⟩
instance fo163_7 : FO Tryd.prog 163 7 7 1 false := ⟨_, _, _, _, _, Tryd.underlying163, rfl, ti159, rfl, rfl, by decide⟩
instance fo163_8 : FO Tryd.prog 163 8 8 1 false := ⟨_, _, _, _, _, Tryd.underlying163, rfl, ti160, rfl, rfl, by decide⟩
instance fo163_9 : FO Tryd.prog 163 9 9 1 false := ⟨_, _, _, _, _, Tryd.underlying163, rfl, ti161, rfl, rfl, by decide⟩
instance fo163_10 : FO Tryd.prog 163 10 10 1 false := ⟨_, _, _, _, _, Tryd.underlying163, rfl, ti162, rfl, rfl, by decide⟩
instance fo164_0 : FO Tryd.prog 164 0 0 1 false := ⟨_, _, _, _, _, Tryd.underlying164, rfl, ti12, rfl, rfl, by decide⟩
instance fo164_1 : FO Tryd.prog 164 1 1 1 false := ⟨_, _, _, _, _, Tryd.underlying164, rfl, ti12, rfl, rfl, by decide⟩
instance fo164_2 : FO Tryd.prog 164 2 2 1 false := ⟨_, _, _, _, _, Tryd.underlying164, rfl, ti24, rfl, rfl, by decide⟩
instance fo164_3 : FO Tryd.prog 164 3 3 1 false := ⟨_, _, _, _, _, Tryd.underlying164, rfl, ti157, rfl, rfl, by decide⟩
instance fo164_4 : FO Tryd.prog 164 4 4 1 false := ⟨_, _, _, _, _, Tryd.underlying164, rfl, ti5, rfl, rfl, by decide⟩
instance fo164_5 : FO Tryd.prog 164 5 5 1 false := ⟨_, _, _, _, _, Tryd.underlying164, rfl, ti5, rfl, rfl, by decide⟩
instance fo164_6 : FO Tryd.prog 164 6 6 1 false := ⟨_, _, _, _, _, Tryd.underlying164, rfl, ti158, rfl, rfl, by decide⟩
instance fo164_7 : FO Tryd.prog 164 7 7 1 false := ⟨_, _, _, _, _, Tryd.underlying164, rfl, ti159, rfl, rfl, by decide⟩
instance fo164_8 : FO Tryd.prog 164 8 8 1 false := ⟨_, _, _, _, _, Tryd.underlying164, rfl, ti160, rfl, rfl, by decide⟩
instance fo164_9 : FO Tryd.prog 164 9 9 1 false := ⟨_, _, _, _, _, Tryd.underlying164, rfl, ti161, rfl, rfl, by decide⟩
instance fo164_10 : FO Tryd.prog 164 10 10 1 false := ⟨_, _, _, _, _, Tryd.underlying164, rfl, ti162, rfl, rfl, by decide⟩
theorem eqs7 {a0 b0 : Int} {a1 b1 : Int} {a2 b2 : Bool} {a3 b3 : Int} : EqS Tryd.prog 7 [.int .i64 a0, .int .i64 a1, .bool a2, .int .u8 a3] [.int .i64 b0, .int .i64 b1, .bool b2, .int .u8 b3] (a0 = b0 ∧ (a1 = b1 ∧ (a2 = b2 ∧ (a3 = b3 ∧ True)))) := eqS_of _ Tryd.underlying7 (by kernel_rfl) (by kernel_rfl) (eqF_int (by decide) rfl rfl (eqF_int (by decide) rfl rfl (eqF_bool (by decide) rfl rfl (eqF_int (by decide) rfl rfl eqF_nil))))
theorem eqs8 {a0 b0 : Int} {a1 b1 : Int} {a2 b2 : Bool} {a3 b3 : Int} : EqS Tryd.prog 8 [.int .i64 a0, .int .i64 a1, .bool a2, .int .u8 a3] [.int .i64 b0, .int .i64 b1, .bool b2, .int .u8 b3] (a0 = b0 ∧ (a1 = b1 ∧ (a2 = b2 ∧ (a3 = b3 ∧ True)))) := eqS_of _ Tryd.underlying8 (by kernel_rfl) (by kernel_rfl) (eqF_int (by decide) rfl rfl (eqF_int (by decide) rfl rfl (eqF_bool (by decide) rfl rfl (eqF_int (by decide) rfl rfl eqF_nil))))
theorem eqs35 {a0 b0 : Int} {a1 b1 : Int} {a2 b2 : Int} {a3 b3 : Int} {a4 b4 : Int} {a5 b5 : Int} : EqS Tryd.prog 35 [.int .u32 a0, .int .i64 a1, .int .i64 a2, .int .i64 a3, .int .i64 a4, .int .i64 a5] [.int .u32 b0, .int .i64 b1, .int .i64 b2, .int .i64 b3, .int .i64 b4, .int .i64 b5] (a0 = b0 ∧ (a1 = b1 ∧ (a2 = b2 ∧ (a3 = b3 ∧ (a4 = b4 ∧ (a5 = b5 ∧ True)))))) := eqS_of _ Tryd.underlying35 (by kernel_rfl) (by kernel_rfl) (eqF_int (by decide) rfl rfl (eqF_int (by decide) rfl rfl (eqF_int (by decide) rfl rfl (eqF_int (by decide) rfl rfl (eqF_int (by decide) rfl rfl (eqF_int (by decide) rfl rfl eqF_nil))))))
theorem eqs36 {a0 b0 : Int} {a1 b1 : Int} {a2 b2 : Int} {a3 b3 : Int} {a4 b4 : Int} {a5 b5 : Int} : EqS Tryd.prog 36 [.int .u32 a0, .int .i64 a1, .int .i64 a2, .int .i64 a3, .int .i64 a4, .int .i64 a5] [.int .u32 b0, .int .i64 b1, .int .i64 b2, .int .i64 b3, .int .i64 b4, .int .i64 b5] (a0 = b0 ∧ (a1 = b1 ∧ (a2 = b2 ∧ (a3 = b3 ∧ (a4 = b4 ∧ (a5 = b5 ∧ True)))))) := eqS_of _ Tryd.underlying36 (by kernel_rfl) (by kernel_rfl) (eqF_int (by decide) rfl rfl (eqF_int (by decide) rfl rfl (eqF_int (by decide) rfl rfl (eqF_int (by decide) rfl rfl (eqF_int (by decide) rfl rfl (eqF_int (by decide) rfl rfl eqF_nil))))))
theorem eqs50 {a0 b0 : Int} {a1 b1 : Int} {a2 b2 : Int} {a3 b3 : Int} : EqS Tryd.prog 50 [.int .u32 a0, .int .i64 a1, .int .i64 a2, .int .i64 a3] [.int .u32 b0, .int .i64 b1, .int .i64 b2, .int .i64 b3] (a0 = b0 ∧ (a1 = b1 ∧ (a2 = b2 ∧ (a3 = b3 ∧ True)))) := eqS_of _ Tryd.underlying50 (by kernel_rfl) (by kernel_rfl) (eqF_int (by decide) rfl rfl (eqF_int (by decide) rfl rfl (eqF_int (by decide) rfl rfl (eqF_int (by decide) rfl rfl eqF_nil))))
theorem eqs51 {a0 b0 : Int} {a1 b1 : Int} {a2 b2 : Int} {a3 b3 : Int} : EqS Tryd.prog 51 [.int .u32 a0, .int .i64 a1, .int .i64 a2, .int .i64 a3] [.int .u32 b0, .int .i64 b1, .int .i64 b2, .int .i64 b3] (a0 = b0 ∧ (a1 = b1 ∧ (a2 = b2 ∧ (a3 = b3 ∧ True)))) := eqS_of _ Tryd.underlying51 (by kernel_rfl) (by kernel_rfl) (eqF_int (by decide) rfl rfl (eqF_int (by decide) rfl rfl (eqF_int (by decide) rfl rfl (eqF_int (by decide) rfl rfl eqF_nil))))
theorem eqs122 {a0 b0 : Int} {a1 b1 : Int} : EqS Tryd.prog 122 [.int .i64 a0, .int .i64 a1] [.int .i64 b0, .int .i64 b1] (a0 = b0 ∧ (a1 = b1 ∧ True)) := eqS_of _ Tryd.underlying122 (by kernel_rfl) (by kernel_rfl) (eqF_int (by decide) rfl rfl (eqF_int (by decide) rfl rfl eqF_nil))
theorem eqs123 {a0 b0 : Int} {a1 b1 : Int} : EqS Tryd.prog 123 [.int .i64 a0, .int .i64 a1] [.int .i64 b0, .int .i64 b1] (a0 = b0 ∧ (a1 = b1 ∧ True)) := eqS_of _ Tryd.underlying123 (by kernel_rfl) (by kernel_rfl) (eqF_int (by decide) rfl rfl (eqF_int (by decide) rfl rfl eqF_nil))
end Go.Proofs.YtgpjbjbdfkiklaaDoor
set_option linter.unusedVariables false
set_option linter.unusedSimpArgs false
namespace Go.Proofs.YtgpjbjbdfkiklaaDoor
open Go Go.Eng
theorem bytesClone_spec {G : World} {M : Mem} {L : Own} {A : Option Addr} {n c : Nat} {bs : List UInt8} (h : Bytes M A n c bs) (hn : n ≤ 140737488355328) :
    Con Tryd.prog 54 #[.slice A n c] G M L (fun v M' L' => L' = L ∧ ∃ A' c', v = .slice A' n c' ∧ Bytes M' A' n c' bs) noPanic := by
  refine enter (args := [_]) (fn := Tryd.f54) ⟨Tryd.func54, rfl, by kernel_rfl, by kernel_rfl⟩ 8 rfl ?_
  refine x_seq (x_region ?_)
  refine tl_y rfl (y_assign rfl) ?_
  refine tl_nil (.then_normal ?_)
  refine x_seq (x_seq (x_region ?_))
  refine tl_y rfl (y_move (v := .slice _ _ _) rfl) ?_
  refine tl_y rfl (y_eqNilSlice rfl rfl) ?_
  refine tl_nil (.then_normal ?_)
  refine x_condb rfl (fun hc1 => ?_) (fun hc1 => ?_)
  ·
    obtain rfl : A = none := by simpa using hc1
    have h0 : n = 0 := by
      rcases Nat.eq_zero_or_pos n with h0 | h0
      · exact h0
      · obtain ⟨b, o, e, _⟩ := h.addr h0; cases e
    subst h0
    have hb : bs = [] := List.eq_nil_of_length_eq_zero h.size
    subst hb
    refine x_seq (x_region ?_)
    refine tl_y rfl (y_assign rfl) ?_
    refine tl_nil (.then_normal ?_)
    refine x_ret (.then_ret (ret1 rfl rfl (Le.refl _) ⟨rfl, none, 0, rfl, Row.nil _ _⟩))
  ·
    refine x_skip (.then_normal ?_)
    refine x_seq (x_region ?_)
    refine tl_e rfl (e_buildSlice0 (fun b1 => ?_))
    refine tl_y rfl (y_move (v := .slice _ _ _) rfl) ?_
    refine tl_e rfl (e_append1 (by decide) rfl rfl OwnRow.made00 (.row h) (all_one_bv bs) (by omega) (by omega) (fun A' cap' E hE => ?_))
    rw [Nat.zero_add, List.nil_append] at hE; rw [Nat.zero_add]
    refine tl_y rfl (y_assign (v := .slice _ _ _) rfl) ?_
    refine tl_nil (.then_normal ?_)
    refine .sub (F' := [(2, _)]) (.cons rfl .nil) ?_
    refine x_ret (.pubRow hE fun M' hle hr => ret1 rfl rfl hle ⟨rfl, _, _, rfl, hr⟩)
abbrev Ints (M : Mem) (A : Option Addr) (n cap : Nat) (xs : List Int) : Prop := Row M 1 A n cap (xs.map (.int .i64))
theorem ints_one (xs : List Int) : (xs.map (Value.int .i64)).all one = true := by simp [one, Value.oneCell']
theorem Ints.size {M : Mem} {A : Option Addr} {n cap : Nat} {xs : List Int} (h : Ints M A n cap xs) : xs.length = n := by have := h.len; simpa using this
def noneOf (xs : List Int) (x : Int) (k : Nat) : Prop := ∀ j, j < k → xs.getD j 0 ≠ x
theorem noneOf_succ {xs : List Int} {x : Int} {k : Nat} (h : noneOf xs x k) (hk : ¬ x = xs.getD k 0) : noneOf xs x (k + 1) := fun j hj => by
  rcases Nat.lt_or_ge j k with hlt | hge
  · exact h j hlt
  · obtain rfl : j = k := by omega
    exact Ne.symm hk
theorem indexInts_spec {G : World} {M : Mem} {L : Own} {A : Option Addr} {n c : Nat} {xs : List Int} (h : Ints M A n c xs) (x : Int) :
    Con Tryd.prog 112 #[.slice A n c, .int .i64 x] G M L (fun v M' L' => M' = M ∧ L' = L ∧ ∃ r : Int, v = .int .i64 r ∧ (0 ≤ r ↔ x ∈ xs)) noPanic := by
  have hs := h.size
  have hmx := h.max
  have hle := h.le
  refine enter (args := [_, _]) (fn := Tryd.f112) ⟨Tryd.func112, rfl, by kernel_rfl, by kernel_rfl⟩ 19 rfl ?_
  refine x_seq (x_region ?_)
  refine tl_y rfl (y_assign rfl) ?_
  refine tl_nil (.then_normal ?_)
  refine x_seq (x_seq (x_region ?_))
  refine tl_y rfl (y_move (v := .slice _ _ _) rfl) ?_
  refine tl_y rfl (y_len rfl) ?_
  refine tl_y rfl (y_move rfl) ?_
  refine tl_nil (.then_normal ?_)
  refine x_block ?_
  refine x_loop (I := fun m' F D M1 L1 => ∃ k : Nat, m' = n - k ∧ k ≤ n ∧ noneOf xs x k ∧ D = [] ∧ M1 = M ∧ L1 = L ∧ F = [(0, .slice A n c), (1, .int .i64 x), (4, .int .i64 0), (7, .int .i64 n), (8, .int .i64 k)]) (n) (F0 := [(0, _), (1, _), (4, _), (7, _), (8, _)]) ?_ (.cons rfl (.cons rfl (.cons rfl (.cons rfl (.cons rfl .nil))))) ?_  -- slots [0, 1, 4, 7, 8], written [4, 8]
  · exact ⟨0, rfl, by omega, (fun j h => by omega), rfl, rfl, rfl, rfl⟩
  rintro m _ _ M1 L1 ⟨k, rfl, hk, hno, rfl, rfl, rfl, rfl⟩
  refine x_seq (x_region ?_)
  refine tl_y rfl (y_lss rfl rfl) ?_
  refine tl_nil (.then_normal ?_)
  refine x_seq ?_
  refine x_cond rfl (fun hc1 => ?_) (fun hc1 => ?_)
  ·
    have hkn : k < n := by omega
    obtain ⟨p, o, rfl, hca⟩ := h.addr (by omega)
    have hcell := hca L1 k (.int .i64 (xs.getD k 0)) (by simp [hs, hkn])
    refine x_skip (.then_normal ?_)
    refine x_seq ?_
    refine x_block ?_
    refine x_seq (x_region ?_)
    refine tl_y rfl (y_move (v := .int _ _) rfl) ?_
    refine tl_y rfl (y_assign (v := .int _ _) rfl) ?_
    refine tl_nil (.then_normal ?_)
    refine x_seq (x_region ?_)
    refine tl_y rfl (y_move (v := .int _ _) rfl) ?_
    refine tl_y rfl (y_move (v := .slice _ _ _) rfl) ?_
    refine tl_y rfl (y_move (v := .int _ _) rfl) ?_
    refine tl_y rfl (y_indexAddr rfl rfl (by omega)) ?_
    refine tl_y rfl (y_load rfl rfl (.at_ hcell (by omega))) ?_
    refine tl_y rfl (y_eql rfl rfl) ?_
    refine tl_nil (.then_normal ?_)
    refine .sub (F' := [(0, _), (1, _), (4, _), (5, _), (7, _), (8, _), (16, _)]) (.cons rfl (.cons rfl (.cons rfl (.cons rfl (.cons rfl (.cons rfl (.cons rfl .nil))))))) ?_
    refine x_cond rfl (fun hc2 => ?_) (fun hc2 => ?_)
    ·
      refine x_seq (x_region ?_)
      refine tl_y rfl (y_move (v := .int _ _) rfl) ?_
      refine tl_y rfl (y_assign (v := .int _ _) rfl) ?_
      refine tl_nil (.then_normal ?_)
      refine x_ret (.block_ret (.then_ret (.loop_ret (.block_ret (.then_ret (ret1 rfl rfl (Le.refl _) ⟨rfl, rfl, _, rfl, iff_of_true (by omega) (by rw [hc2, List.getD_eq_getElem?_getD, List.getElem?_eq_getElem (by omega)]; simp)⟩))))))
    ·
      refine x_skip (.block_normal (.then_normal ?_))
      refine x_region ?_
      refine tl_y rfl (y_addI rfl rfl (by omega)) ?_
      refine tl_y rfl (y_move (v := .int _ _) rfl) ?_
      refine tl_nil (.loop_next (m' := n - (k + 1)) (by omega) (F' := [(0, _), (1, _), (4, _), (7, _), (8, _)]) (.cons rfl (.cons rfl (.cons rfl (.cons rfl (.cons rfl .nil))))) ?_)
      exact ⟨k + 1, rfl, by omega, noneOf_succ hno hc2, rfl, rfl, rfl, rfl⟩
  ·
    refine x_exit (.then_exit (.loop_exit (.block_exit (.then_normal ?_))))
    refine .sub (F' := []) .nil ?_
    refine x_seq (x_region ?_)
    refine tl_y rfl (y_assign rfl) ?_
    refine tl_nil (.then_normal ?_)
    refine x_ret (ret1 rfl rfl (Le.refl _) ⟨rfl, rfl, _, rfl, iff_of_false (by omega) (fun hm => by obtain ⟨j, hj, he⟩ := List.getElem_of_mem hm; exact hno j (by omega) (by rw [List.getD_eq_getElem?_getD, List.getElem?_eq_getElem hj]; simpa using he))⟩)
theorem containsInts_spec {G : World} {M : Mem} {L : Own} {A : Option Addr} {n c : Nat} {xs : List Int} (h : Ints M A n c xs) (x : Int) :
    Con Tryd.prog 109 #[.slice A n c, .int .i64 x] G M L (fun v M' L' => M' = M ∧ L' = L ∧ v = .bool (decide (x ∈ xs))) noPanic := by
  refine enter (args := [_, _]) (fn := Tryd.f109) ⟨Tryd.func109, rfl, by kernel_rfl, by kernel_rfl⟩ 9 rfl ?_
  refine x_seq (x_region ?_)
  refine tl_y rfl (y_assign rfl) ?_
  refine tl_nil (.then_normal ?_)
  refine x_seq (x_region ?_)
  refine tl_y rfl (y_move (v := .slice _ _ _) rfl) ?_
  refine tl_y rfl (y_move (v := .int _ _) rfl) ?_
  refine tl_e rfl (e_call' rfl (indexInts_spec h x) ?_)
  rintro _ M1 L1 hM1 ⟨rfl, rfl, r, rfl, hr⟩
  refine tl_y rfl (y_geq rfl rfl) ?_
  refine tl_y rfl (y_assign (v := .bool _) rfl) ?_
  refine tl_nil (.then_normal ?_)
  refine .sub (F' := [(4, _)]) (.cons rfl .nil) ?_
  refine x_ret (ret1 rfl rfl (Le.refl _) ⟨rfl, rfl, by congr 1; exact decide_eq_decide.2 hr⟩)
end Go.Proofs.YtgpjbjbdfkiklaaDoor
set_option linter.unusedVariables false
set_option linter.unusedSimpArgs false
set_option linter.constructorNameAsVariable false
namespace Go.Proofs.YtgpjbjbdfkiklaaDoor
open Go Go.Eng
theorem src_in {M : Mem} {L : Own} {s n : Nat} {A : Option Addr} {vs : List Value} {p : Nat × Obj} (h : RowIn M L s A n vs) : Src M (p :: L) s A n vs := ⟨h.len, fun w hw h0 => by
  rcases Nat.eq_zero_or_pos n with h1 | h1
  · subst h1; simp at h0
  · obtain ⟨b, o, e, hc⟩ := h.addr h1
    exact ⟨_, e, fun j v hj => by rw [add_plain]; exact hc j v hj w ⟨hw.ro, fun q hq => hw.own q (List.mem_cons_of_mem _ hq)⟩⟩⟩
section
variable {G : World} {M : Mem} {L R : Own}
/-- A clone of what lies anywhere, owned. -/
theorem bytesClone_own {A : Option Addr} {n c : Nat} {bs : List UInt8} (h : RowIn M L 1 A n (bs.map bv)) (hn : n ≤ 140737488355328) :
    Con Tryd.prog 54 #[.slice A n c] G M L (fun v M' L' => M = M' ∧ ∃ A' c' E, v = .slice A' n c' ∧ OwnRow 5 1 A' n c' (bs.map bv) E ∧ L' = E ++ L) noPanic := by
  have hbl : bs.length = n := by have := h.len; simpa using this
  refine enter (args := [_]) (fn := Tryd.f54) ⟨Tryd.func54, rfl, by kernel_rfl, by kernel_rfl⟩ 8 rfl ?_
  refine x_seq (x_region ?_)
  refine tl_y rfl (y_assign rfl) ?_
  refine tl_nil (.then_normal ?_)
  refine x_seq (x_seq (x_region ?_))
  refine tl_y rfl (y_move (v := .slice _ _ _) rfl) ?_
  refine tl_y rfl (y_eqNilSlice rfl rfl) ?_
  refine tl_nil (.then_normal ?_)
  refine x_condb rfl (fun hc1 => ?_) (fun hc1 => ?_)
  ·
    obtain rfl : A = none := by simpa using hc1
    have h0 : n = 0 := by
      rcases Nat.eq_zero_or_pos n with h0 | h0
      · exact h0
      · obtain ⟨b, o, e, _⟩ := h.addr h0; cases e
    subst h0
    have hb : bs = [] := List.eq_nil_of_length_eq_zero hbl
    subst hb
    refine x_seq (x_region ?_)
    refine tl_y rfl (y_assign rfl) ?_
    refine tl_nil (.then_normal ?_)
    refine x_ret (.then_ret (ret1 rfl rfl (Le.refl _) ⟨rfl, none, 0, [], rfl, .nil, rfl⟩))
  ·
    refine x_skip (.then_normal ?_)
    refine x_seq (x_region ?_)
    refine tl_e rfl (e_buildSlice0 (fun b1 => ?_))
    refine tl_y rfl (y_move (v := .slice _ _ _) rfl) ?_
    refine tl_e rfl (e_append1 (by decide) rfl rfl OwnRow.made00 (src_in h) (all_one_bv bs) (by omega) (by omega) (fun A' cap' E hE => ?_))
    rw [Nat.zero_add, List.nil_append] at hE; rw [Nat.zero_add]
    refine tl_y rfl (y_assign (v := .slice _ _ _) rfl) ?_
    refine tl_nil (.then_normal ?_)
    refine .sub (F' := [(2, _)]) (.cons rfl .nil) ?_
    refine x_ret (ret1 rfl rfl (Le.refl _) ⟨rfl, _, _, E, rfl, hE, rfl⟩)
end
end Go.Proofs.YtgpjbjbdfkiklaaDoor
set_option linter.unusedVariables false
set_option linter.unusedSimpArgs false
namespace Go.Proofs.YtgpjbjbdfkiklaaDoor
open Go Go.Eng
/-! ### Keccak, as the program does it -/
def rotl (x : UInt64) (s : Nat) : UInt64 := shl64 x s ||| shr64 x (64 - s)
def kTurns : List Nat := [0, 1, 62, 28, 27, 36, 44, 6, 55, 20, 3, 10, 43, 25, 39, 41, 45, 15, 21, 8, 18, 2, 61, 56, 14]
def kRc : List UInt64 := [0x0000000000000001, 0x0000000000008082, 0x800000000000808a, 0x8000000080008000,
  0x000000000000808b, 0x0000000080000001, 0x8000000080008081, 0x8000000000008009,
  0x000000000000008a, 0x0000000000000088, 0x0000000080008009, 0x000000008000000a,
  0x000000008000808b, 0x800000000000008b, 0x8000000000008089, 0x8000000000008003,
  0x8000000000008002, 0x8000000000000080, 0x000000000000800a, 0x800000008000000a,
  0x8000000080008081, 0x8000000000008080, 0x0000000080000001, 0x8000000080008008]
def updL (l : List UInt64) (i : Nat) (f : UInt64 → UInt64) : List UInt64 := l.set i (f (l.getD i 0))
theorem updL_length (l : List UInt64) (i : Nat) (f : UInt64 → UInt64) : (updL l i f).length = l.length := by simp [updL]
def kCols (a : List UInt64) : Nat → List UInt64
  | 0 => List.replicate 5 0
  | k + 1 => updL (kCols a k) (k % 5) (· ^^^ a.getD k 0)
def kTheta (c a : List UInt64) : Nat → List UInt64
  | 0 => a
  | k + 1 => updL (kTheta c a k) k (· ^^^ (c.getD ((k % 5 + 4) % 5) 0 ^^^ rotl (c.getD ((k % 5 + 1) % 5) 0) 1))
def kRho (a : List UInt64) : Nat → List UInt64
  | 0 => List.replicate 25 0
  | k + 1 => (kRho a k).set (k / 5 + 5 * ((2 * (k % 5) + 3 * (k / 5)) % 5)) (rotl (a.getD k 0) (kTurns.getD k 0))
def kChi (b a : List UInt64) : Nat → List UInt64
  | 0 => a
  | k + 1 => (kChi b a k).set k (b.getD k 0 ^^^ (~~~ (b.getD (k / 5 * 5 + (k % 5 + 1) % 5) 0) &&& b.getD (k / 5 * 5 + (k % 5 + 2) % 5) 0))
def kThetaA (a : List UInt64) : List UInt64 := kTheta (kCols a 25) a 25
def kRound (a : List UInt64) (rc : UInt64) : List UInt64 := updL (kChi (kRho (kThetaA a) 25) (kThetaA a) 25) 0 (· ^^^ rc)
def kPerm (a : List UInt64) : Nat → List UInt64
  | 0 => a
  | k + 1 => kRound (kPerm a k) (kRc.getD k 0)
theorem kCols_length (a : List UInt64) (k : Nat) : (kCols a k).length = 5 := by
  induction k with
  | zero => simp [kCols]
  | succ k ih => rw [kCols, updL_length, ih]
theorem kTheta_length (c a : List UInt64) (k : Nat) : (kTheta c a k).length = a.length := by
  induction k with
  | zero => simp [kTheta]
  | succ k ih => rw [kTheta, updL_length, ih]
theorem kRho_length (a : List UInt64) (k : Nat) : (kRho a k).length = 25 := by
  induction k with
  | zero => simp [kRho]
  | succ k ih => rw [kRho, List.length_set, ih]
theorem kChi_length (b a : List UInt64) (k : Nat) : (kChi b a k).length = a.length := by
  induction k with
  | zero => simp [kChi]
  | succ k ih => rw [kChi, List.length_set, ih]
theorem kRound_length (a : List UInt64) (rc : UInt64) : (kRound a rc).length = a.length := by
  rw [kRound, updL_length, kChi_length, kThetaA, kTheta_length]
theorem kPerm_length (a : List UInt64) (k : Nat) : (kPerm a k).length = a.length := by
  induction k with
  | zero => rfl
  | succ k ih => rw [kPerm, kRound_length, ih]
/-! ### Keccak, as the reference does it -/
def rCols (s : List UInt64) : Nat → List UInt64
  | 0 => List.replicate 5 0
  | x + 1 => (rCols s x).set x (0 ^^^ s.getD x 0 ^^^ s.getD (x + 5) 0 ^^^ s.getD (x + 10) 0 ^^^ s.getD (x + 15) 0 ^^^ s.getD (x + 20) 0)
def rThIn (d : UInt64) (x : Nat) (s : List UInt64) : Nat → List UInt64
  | 0 => s
  | y + 1 => updL (rThIn d x s y) (x + 5 * y) (· ^^^ d)
def rTh (c s : List UInt64) : Nat → List UInt64
  | 0 => s
  | x + 1 => rThIn (c.getD ((x + 4) % 5) 0 ^^^ rotl (c.getD ((x + 1) % 5) 0) 1) x (rTh c s x) 5
def rXY : Nat → Nat × Nat
  | 0 => (1, 0)
  | t + 1 => ((rXY t).2, (2 * (rXY t).1 + 3 * (rXY t).2) % 5)
def rRh (s : List UInt64) : Nat → List UInt64
  | 0 => s
  | t + 1 => updL (rRh s t) ((rXY t).1 + 5 * (rXY t).2) (rotl · ((t + 1) * (t + 2) / 2 % 64))
def rBIn (s b : List UInt64) (x : Nat) : Nat → List UInt64
  | 0 => b
  | y + 1 => (rBIn s b x y).set (y + 5 * ((2 * x + 3 * y) % 5)) (s.getD (x + 5 * y) 0)
def rB (s : List UInt64) : Nat → List UInt64
  | 0 => List.replicate 25 0
  | x + 1 => rBIn s (rB s x) x 5
def rChiIn (b s : List UInt64) (x : Nat) : Nat → List UInt64
  | 0 => s
  | y + 1 => (rChiIn b s x y).set (x + 5 * y) (b.getD (x + 5 * y) 0 ^^^ (~~~ (b.getD ((x + 1) % 5 + 5 * y) 0) &&& b.getD ((x + 2) % 5 + 5 * y) 0))
def rChi (b s : List UInt64) : Nat → List UInt64
  | 0 => s
  | x + 1 => rChiIn b (rChi b s x) x 5
def rThA (s : List UInt64) : List UInt64 := rTh (rCols s 5) s 5
def rRhA (s : List UInt64) : List UInt64 := rRh (rThA s) 24
def rStep (s : List UInt64) (rc : UInt64) : List UInt64 := updL (rChi (rB (rRhA s) 5) (rRhA s) 5) 0 (· ^^^ rc)
theorem list25 {s : List UInt64} (h : s.length = 25) : ∃ a0 a1 a2 a3 a4 a5 a6 a7 a8 a9 b0 b1 b2 b3 b4 b5 b6 b7 b8 b9 c0 c1 c2 c3 c4, s = [a0, a1, a2, a3, a4, a5, a6, a7, a8, a9, b0, b1, b2, b3, b4, b5, b6, b7, b8, b9, c0, c1, c2, c3, c4] := by
  match s, h with
  | [a0, a1, a2, a3, a4, a5, a6, a7, a8, a9, b0, b1, b2, b3, b4, b5, b6, b7, b8, b9, c0, c1, c2, c3, c4], _ => exact ⟨_, _, _, _, _, _, _, _, _, _, _, _, _, _, _, _, _, _, _, _, _, _, _, _, _, rfl⟩
theorem list5 {s : List UInt64} (h : s.length = 5) : ∃ a0 a1 a2 a3 a4, s = [a0, a1, a2, a3, a4] := by
  match s, h with
  | [a0, a1, a2, a3, a4], _ => exact ⟨_, _, _, _, _, rfl⟩
theorem cols_eq {s : List UInt64} (h : s.length = 25) : rCols s 5 = kCols s 25 := by
  obtain ⟨a0, a1, a2, a3, a4, a5, a6, a7, a8, a9, b0, b1, b2, b3, b4, b5, b6, b7, b8, b9, c0, c1, c2, c3, c4, rfl⟩ := list25 h
  kernel_rfl
theorem theta_eq {c s : List UInt64} (hc : c.length = 5) (h : s.length = 25) : rTh c s 5 = kTheta c s 25 := by
  obtain ⟨a0, a1, a2, a3, a4, a5, a6, a7, a8, a9, b0, b1, b2, b3, b4, b5, b6, b7, b8, b9, c0, c1, c2, c3, c4, rfl⟩ := list25 h
  obtain ⟨d0, d1, d2, d3, d4, rfl⟩ := list5 hc
  kernel_rfl
theorem rotl0 (x : UInt64) : rotl x 0 = x := by
  unfold rotl shl64 shr64
  have h1 : x.toNat / 2 ^ (64 - 0) = 0 := Nat.div_eq_of_lt x.toNat_lt
  rw [h1, Nat.pow_zero, Nat.mul_one]
  apply UInt64.toNat_inj.1
  simp
theorem rho_eq {s : List UInt64} (h : s.length = 25) : rB (rRh s 24) 5 = kRho s 25 := by
  obtain ⟨a0, a1, a2, a3, a4, a5, a6, a7, a8, a9, b0, b1, b2, b3, b4, b5, b6, b7, b8, b9, c0, c1, c2, c3, c4, rfl⟩ := list25 h
  have e : kRho [a0, a1, a2, a3, a4, a5, a6, a7, a8, a9, b0, b1, b2, b3, b4, b5, b6, b7, b8, b9, c0, c1, c2, c3, c4] 25 = (rB (rRh [a0, a1, a2, a3, a4, a5, a6, a7, a8, a9, b0, b1, b2, b3, b4, b5, b6, b7, b8, b9, c0, c1, c2, c3, c4] 24) 5).set 0 (rotl a0 0) := by kernel_rfl
  have e2 : rB (rRh [a0, a1, a2, a3, a4, a5, a6, a7, a8, a9, b0, b1, b2, b3, b4, b5, b6, b7, b8, b9, c0, c1, c2, c3, c4] 24) 5 = (rB (rRh [a0, a1, a2, a3, a4, a5, a6, a7, a8, a9, b0, b1, b2, b3, b4, b5, b6, b7, b8, b9, c0, c1, c2, c3, c4] 24) 5).set 0 a0 := by kernel_rfl
  rw [e, rotl0]
  exact e2
theorem chi_eq {b s t : List UInt64} (hb : b.length = 25) (h : s.length = 25) (ht : t.length = 25) : rChi b t 5 = kChi b s 25 := by
  obtain ⟨a0, a1, a2, a3, a4, a5, a6, a7, a8, a9, b0, b1, b2, b3, b4, b5, b6, b7, b8, b9, c0, c1, c2, c3, c4, rfl⟩ := list25 hb
  obtain ⟨d0, d1, d2, d3, d4, d5, d6, d7, d8, d9, e0, e1, e2, e3, e4, e5, e6, e7, e8, e9, f0, f1, f2, f3, f4, rfl⟩ := list25 h
  obtain ⟨g0, g1, g2, g3, g4, g5, g6, g7, g8, g9, h0, h1, h2, h3, h4, h5, h6, h7, h8, h9, i0, i1, i2, i3, i4, rfl⟩ := list25 ht
  kernel_rfl
theorem rThIn_length (d : UInt64) (x : Nat) (s : List UInt64) (y : Nat) : (rThIn d x s y).length = s.length := by
  induction y with
  | zero => rfl
  | succ y ih => rw [rThIn, updL_length, ih]
theorem rTh_length (c s : List UInt64) (x : Nat) : (rTh c s x).length = s.length := by
  induction x with
  | zero => rfl
  | succ x ih => rw [rTh, rThIn_length, ih]
theorem rRh_length (s : List UInt64) (t : Nat) : (rRh s t).length = s.length := by
  induction t with
  | zero => rfl
  | succ t ih => rw [rRh, updL_length, ih]
theorem rBIn_length (s b : List UInt64) (x y : Nat) : (rBIn s b x y).length = b.length := by
  induction y with
  | zero => rfl
  | succ y ih => rw [rBIn, List.length_set, ih]
theorem rB_length (s : List UInt64) (x : Nat) : (rB s x).length = 25 := by
  induction x with
  | zero => simp [rB]
  | succ x ih => rw [rB, rBIn_length, ih]
theorem rCols_length (s : List UInt64) (x : Nat) : (rCols s x).length = 5 := by
  induction x with
  | zero => simp [rCols]
  | succ x ih => rw [rCols, List.length_set, ih]
theorem rChiIn_length (b s : List UInt64) (x y : Nat) : (rChiIn b s x y).length = s.length := by
  induction y with
  | zero => rfl
  | succ y ih => rw [rChiIn, List.length_set, ih]
theorem rChi_length (b s : List UInt64) (x : Nat) : (rChi b s x).length = s.length := by
  induction x with
  | zero => rfl
  | succ x ih => rw [rChi, rChiIn_length, ih]
theorem step_eq {s : List UInt64} (h : s.length = 25) (rc : UInt64) : rStep s rc = kRound s rc := by
  have h1 : rThA s = kThetaA s := by rw [rThA, kThetaA, cols_eq h, theta_eq (kCols_length _ _) h]
  have hl : (kThetaA s).length = 25 := by rw [kThetaA, kTheta_length, h]
  have h2 : rB (rRhA s) 5 = kRho (kThetaA s) 25 := by rw [rRhA, h1, rho_eq hl]
  have h3 : (rRhA s).length = 25 := by rw [rRhA, rRh_length, h1, hl]
  rw [rStep, kRound, h2, chi_eq (kRho_length _ _) hl h3]
end Go.Proofs.YtgpjbjbdfkiklaaDoor
