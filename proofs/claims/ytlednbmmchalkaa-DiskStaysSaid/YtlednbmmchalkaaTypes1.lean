/-
Contracts of functions, each proved by a walk through its code.
-/
import Derived.Test.YtlednbmmchalkaaProg
import Derived.Test.YtlednbmmchalkaaEngF
set_option linter.unusedVariables false
namespace Go.Proofs.Ytlednbmmchalkaa
open Go.Eng
theorem hmix : Try.prog.follows .mixedOrders = true := by kernel_rfl
instance ti0 : TI Try.prog 0 (.tuple #[]) (.tuple #[]) 1 0 := ⟨Try.underlying0, by kernel_rfl⟩
instance ti1 : TI Try.prog 1 (.func #[] #[] false) (.nilFunc) 1 8 := ⟨Try.underlying1, by kernel_rfl⟩
instance ti2 : TI Try.prog 2 (.int .i64) (.int .i64 0) 1 8 := ⟨Try.underlying2, by kernel_rfl⟩
instance ti3 : TI Try.prog 3 (.int .i64) (.int .i64 0) 1 8 := ⟨Try.underlying3, by kernel_rfl⟩
instance ti4 : TI Try.prog 4 (.bool) (.bool false) 1 1 := ⟨Try.underlying4, by kernel_rfl⟩
instance ti5 : TI Try.prog 5 (.int .u8) (.int .u8 0) 1 1 := ⟨Try.underlying5, by kernel_rfl⟩
instance ti6 : TI Try.prog 6 (.int .u8) (.int .u8 0) 1 1 := ⟨Try.underlying6, by kernel_rfl⟩
instance ti7 : TI Try.prog 7 (.struct #[⟨ "x", 2, 0, false, "", "runtime", 0⟩, ⟨ "y", 3, 1, false, "", "runtime", 8⟩, ⟨ "signed", 4, 2, false, "", "runtime", 16⟩, ⟨ "code", 6, 3, false, "", "runtime", 17⟩]) (.agg #[.int .i64 0, .int .i64 0, .bool false, .int .u8 0]) 4 24 := ⟨Try.underlying7, by kernel_rfl⟩
instance si7 : SI Try.prog #[⟨ "x", 2, 0, false, "", "runtime", 0⟩, ⟨ "y", 3, 1, false, "", "runtime", 8⟩, ⟨ "signed", 4, 2, false, "", "runtime", 16⟩, ⟨ "code", 6, 3, false, "", "runtime", 17⟩] [(0, 1), (1, 1), (2, 1), (3, 1)] := ⟨fun w => by kernel_rfl⟩
instance ti8 : TI Try.prog 8 (.struct #[⟨ "x", 2, 0, false, "", "runtime", 0⟩, ⟨ "y", 3, 1, false, "", "runtime", 8⟩, ⟨ "signed", 4, 2, false, "", "runtime", 16⟩, ⟨ "code", 6, 3, false, "", "runtime", 17⟩]) (.agg #[.int .i64 0, .int .i64 0, .bool false, .int .u8 0]) 4 24 := ⟨Try.underlying8, by kernel_rfl⟩
instance ti9 : TI Try.prog 9 (.string) (.string ⟨#[]⟩) 1 16 := ⟨Try.underlying9, by kernel_rfl⟩
instance ti10 : TI Try.prog 10 (.string) (.string ⟨#[]⟩) 1 16 := ⟨Try.underlying10, by kernel_rfl⟩
instance ti11 : TI Try.prog 11 (.string) (.string ⟨#[]⟩) 1 16 := ⟨Try.underlying11, by kernel_rfl⟩
instance ti12 : TI Try.prog 12 (.int .u64) (.int .u64 0) 1 8 := ⟨Try.underlying12, by kernel_rfl⟩
instance ti13 : TI Try.prog 13 (.struct #[⟨ "msg", 9, 0, false, "", "runtime", 0⟩, ⟨ "addr", 12, 1, false, "", "runtime", 16⟩]) (.agg #[.string ⟨#[]⟩, .int .u64 0]) 2 24 := ⟨Try.underlying13, by kernel_rfl⟩
instance si13 : SI Try.prog #[⟨ "msg", 9, 0, false, "", "runtime", 0⟩, ⟨ "addr", 12, 1, false, "", "runtime", 16⟩] [(0, 1), (1, 1)] := ⟨fun w => by kernel_rfl⟩
instance ti14 : TI Try.prog 14 (.struct #[⟨ "msg", 9, 0, false, "", "runtime", 0⟩, ⟨ "addr", 12, 1, false, "", "runtime", 16⟩]) (.agg #[.string ⟨#[]⟩, .int .u64 0]) 2 24 := ⟨Try.underlying14, by kernel_rfl⟩
instance ti15 : TI Try.prog 15 (.pointer 85) (.pointer none) 1 8 := ⟨Try.underlying15, by kernel_rfl⟩
instance ti16 : TI Try.prog 16 (.pointer 88) (.pointer none) 1 8 := ⟨Try.underlying16, by kernel_rfl⟩
instance ti17 : TI Try.prog 17 (.pointer 98) (.pointer none) 1 8 := ⟨Try.underlying17, by kernel_rfl⟩
instance ti18 : TI Try.prog 18 (.struct #[⟨ "typ", 17, 0, false, "", "internal/runtime/maps", 0⟩]) (.agg #[.pointer none]) 1 8 := ⟨Try.underlying18, by kernel_rfl⟩
instance si18 : SI Try.prog #[⟨ "typ", 17, 0, false, "", "internal/runtime/maps", 0⟩] [(0, 1)] := ⟨fun w => by kernel_rfl⟩
instance ti19 : TI Try.prog 19 (.struct #[⟨ "typ", 17, 0, false, "", "internal/runtime/maps", 0⟩]) (.agg #[.pointer none]) 1 8 := ⟨Try.underlying19, by kernel_rfl⟩
instance ti20 : TI Try.prog 20 (.interface #[]) (.nilIface) 1 16 := ⟨Try.underlying20, by kernel_rfl⟩
instance ti21 : TI Try.prog 21 (.int .i32) (.int .i32 0) 1 4 := ⟨Try.underlying21, by kernel_rfl⟩
instance ti22 : TI Try.prog 22 (.slice 31) (.slice none 0 0) 1 24 := ⟨Try.underlying22, by kernel_rfl⟩
instance ti23 : TI Try.prog 23 (.func #[] #[4] false) (.nilFunc) 1 8 := ⟨Try.underlying23, by kernel_rfl⟩
instance ti24 : TI Try.prog 24 (.pointer 62) (.pointer none) 1 8 := ⟨Try.underlying24, by kernel_rfl⟩
instance ti25 : TI Try.prog 25 (.int .i64) (.int .i64 0) 1 8 := ⟨Try.underlying25, by kernel_rfl⟩
instance ti26 : TI Try.prog 26 (.tuple #[24, 25]) (.tuple #[.pointer none, .int .i64 0]) 1 0 := ⟨Try.underlying26, by kernel_rfl⟩
instance ti27 : TI Try.prog 27 (.func #[3] #[24, 25] false) (.nilFunc) 1 8 := ⟨Try.underlying27, by kernel_rfl⟩
instance ti28 : TI Try.prog 28 (.slice 3) (.slice none 0 0) 1 24 := ⟨Try.underlying28, by kernel_rfl⟩
instance ti29 : TI Try.prog 29 (.struct #[⟨ "Fail", 28, 0, false, "", "", 0⟩, ⟨ "Stop", 3, 1, false, "", "", 24⟩]) (.agg #[.slice none 0 0, .int .i64 0]) 2 32 := ⟨Try.underlying29, by kernel_rfl⟩
instance si29 : SI Try.prog #[⟨ "Fail", 28, 0, false, "", "", 0⟩, ⟨ "Stop", 3, 1, false, "", "", 24⟩] [(0, 1), (1, 1)] := ⟨fun w => by kernel_rfl⟩
instance ti30 : TI Try.prog 30 (.struct #[⟨ "Fail", 28, 0, false, "", "", 0⟩, ⟨ "Stop", 3, 1, false, "", "", 24⟩]) (.agg #[.slice none 0 0, .int .i64 0]) 2 32 := ⟨Try.underlying30, by kernel_rfl⟩
instance ti31 : TI Try.prog 31 (.int .i8) (.int .i8 0) 1 1 := ⟨Try.underlying31, by kernel_rfl⟩
instance ti32 : TI Try.prog 32 (.func #[30] #[] false) (.nilFunc) 1 8 := ⟨Try.underlying32, by kernel_rfl⟩
instance ti33 : TI Try.prog 33 (.func #[3, 34] #[25] false) (.nilFunc) 1 8 := ⟨Try.underlying33, by kernel_rfl⟩
instance ti34 : TI Try.prog 34 (.slice 5) (.slice none 0 0) 1 24 := ⟨Try.underlying34, by kernel_rfl⟩
instance ti35 : TI Try.prog 35 (.func #[5, 4] #[34] false) (.nilFunc) 1 8 := ⟨Try.underlying35, by kernel_rfl⟩
instance ti36 : TI Try.prog 36 (.tuple #[3, 3]) (.tuple #[.int .i64 0, .int .i64 0]) 1 0 := ⟨Try.underlying36, by kernel_rfl⟩
instance ti37 : TI Try.prog 37 (.func #[] #[3, 3] false) (.nilFunc) 1 8 := ⟨Try.underlying37, by kernel_rfl⟩
instance ti38 : TI Try.prog 38 (.func #[22, 5] #[4] false) (.nilFunc) 1 8 := ⟨Try.underlying38, by kernel_rfl⟩
instance ti39 : TI Try.prog 39 (.array 2 5) (.agg #[.int .u8 0, .int .u8 0]) 2 2 := ⟨Try.underlying39, by kernel_rfl⟩
instance ti40 : TI Try.prog 40 (.func #[] #[25] false) (.nilFunc) 1 8 := ⟨Try.underlying40, by kernel_rfl⟩
instance ti41 : TI Try.prog 41 (.func #[34, 30] #[] false) (.nilFunc) 1 8 := ⟨Try.underlying41, by kernel_rfl⟩
instance ti42 : TI Try.prog 42 (.tuple #[34, 25]) (.tuple #[.slice none 0 0, .int .i64 0]) 1 0 := ⟨Try.underlying42, by kernel_rfl⟩
instance ti43 : TI Try.prog 43 (.func #[3] #[34, 25] false) (.nilFunc) 1 8 := ⟨Try.underlying43, by kernel_rfl⟩
instance ti44 : TI Try.prog 44 (.func #[34, 34] #[4] false) (.nilFunc) 1 8 := ⟨Try.underlying44, by kernel_rfl⟩
instance ti45 : TI Try.prog 45 (.func #[5, 5, 39] #[4] false) (.nilFunc) 1 8 := ⟨Try.underlying45, by kernel_rfl⟩
instance ti46 : TI Try.prog 46 (.func #[5, 3, 5] #[4] false) (.nilFunc) 1 8 := ⟨Try.underlying46, by kernel_rfl⟩
instance ti47 : TI Try.prog 47 (.slice 51) (.slice none 0 0) 1 24 := ⟨Try.underlying47, by kernel_rfl⟩
instance ti48 : TI Try.prog 48 (.pointer 58) (.pointer none) 1 8 := ⟨Try.underlying48, by kernel_rfl⟩
instance ti49 : TI Try.prog 49 (.func #[3] #[48] false) (.nilFunc) 1 8 := ⟨Try.underlying49, by kernel_rfl⟩
instance ti50 : TI Try.prog 50 (.struct #[⟨ "Kind", 3, 0, false, "", "", 0⟩, ⟨ "I", 3, 1, false, "", "", 8⟩, ⟨ "C", 5, 2, false, "", "", 16⟩, ⟨ "Short", 4, 3, false, "", "", 17⟩, ⟨ "Choices", 34, 4, false, "", "", 24⟩, ⟨ "Plan", 30, 5, false, "", "", 48⟩]) (.agg #[.int .i64 0, .int .i64 0, .int .u8 0, .bool false, .slice none 0 0, .slice none 0 0, .int .i64 0]) 7 80 := ⟨Try.underlying50, by kernel_rfl⟩
instance si50 : SI Try.prog #[⟨ "Kind", 3, 0, false, "", "", 0⟩, ⟨ "I", 3, 1, false, "", "", 8⟩, ⟨ "C", 5, 2, false, "", "", 16⟩, ⟨ "Short", 4, 3, false, "", "", 17⟩, ⟨ "Choices", 34, 4, false, "", "", 24⟩, ⟨ "Plan", 30, 5, false, "", "", 48⟩] [(0, 1), (1, 1), (2, 1), (3, 1), (4, 1), (5, 2)] := ⟨fun w => by kernel_rfl⟩
instance ti51 : TI Try.prog 51 (.struct #[⟨ "Kind", 3, 0, false, "", "", 0⟩, ⟨ "I", 3, 1, false, "", "", 8⟩, ⟨ "C", 5, 2, false, "", "", 16⟩, ⟨ "Short", 4, 3, false, "", "", 17⟩, ⟨ "Choices", 34, 4, false, "", "", 24⟩, ⟨ "Plan", 30, 5, false, "", "", 48⟩]) (.agg #[.int .i64 0, .int .i64 0, .int .u8 0, .bool false, .slice none 0 0, .slice none 0 0, .int .i64 0]) 7 80 := ⟨Try.underlying51, by kernel_rfl⟩
instance ti52 : TI Try.prog 52 (.func #[24, 48, 51] #[4] false) (.nilFunc) 1 8 := ⟨Try.underlying52, by kernel_rfl⟩
instance ti53 : TI Try.prog 53 (.func #[54, 54] #[4] false) (.nilFunc) 1 8 := ⟨Try.underlying53, by kernel_rfl⟩
instance ti54 : TI Try.prog 54 (.slice 34) (.slice none 0 0) 1 24 := ⟨Try.underlying54, by kernel_rfl⟩
instance ti55 : TI Try.prog 55 (.func #[] #[54] false) (.nilFunc) 1 8 := ⟨Try.underlying55, by kernel_rfl⟩
instance ti56 : TI Try.prog 56 (.slice 100) (.slice none 0 0) 1 24 := ⟨Try.underlying56, by kernel_rfl⟩
instance ti57 : TI Try.prog 57 (.struct #[⟨ "Laid", 56, 0, false, "", "", 0⟩, ⟨ "Sure_", 54, 1, false, "", "", 24⟩, ⟨ "Where", 28, 2, false, "", "", 48⟩, ⟨ "What", 54, 3, false, "", "", 72⟩, ⟨ "Plan_", 30, 4, false, "", "", 96⟩, ⟨ "Counted", 3, 6, false, "", "", 128⟩, ⟨ "Off", 4, 7, false, "", "", 136⟩]) (.agg #[.slice none 0 0, .slice none 0 0, .slice none 0 0, .slice none 0 0, .slice none 0 0, .int .i64 0, .int .i64 0, .bool false]) 8 144 := ⟨Try.underlying57, by kernel_rfl⟩
instance si57 : SI Try.prog #[⟨ "Laid", 56, 0, false, "", "", 0⟩, ⟨ "Sure_", 54, 1, false, "", "", 24⟩, ⟨ "Where", 28, 2, false, "", "", 48⟩, ⟨ "What", 54, 3, false, "", "", 72⟩, ⟨ "Plan_", 30, 4, false, "", "", 96⟩, ⟨ "Counted", 3, 6, false, "", "", 128⟩, ⟨ "Off", 4, 7, false, "", "", 136⟩] [(0, 1), (1, 1), (2, 1), (3, 1), (4, 2), (6, 1), (7, 1)] := ⟨fun w => by kernel_rfl⟩
instance ti58 : TI Try.prog 58 (.struct #[⟨ "Laid", 56, 0, false, "", "", 0⟩, ⟨ "Sure_", 54, 1, false, "", "", 24⟩, ⟨ "Where", 28, 2, false, "", "", 48⟩, ⟨ "What", 54, 3, false, "", "", 72⟩, ⟨ "Plan_", 30, 4, false, "", "", 96⟩, ⟨ "Counted", 3, 6, false, "", "", 128⟩, ⟨ "Off", 4, 7, false, "", "", 136⟩]) (.agg #[.slice none 0 0, .slice none 0 0, .slice none 0 0, .slice none 0 0, .slice none 0 0, .int .i64 0, .int .i64 0, .bool false]) 8 144 := ⟨Try.underlying58, by kernel_rfl⟩
instance ti59 : TI Try.prog 59 (.func #[5, 47] #[4] false) (.nilFunc) 1 8 := ⟨Try.underlying59, by kernel_rfl⟩
instance ti60 : TI Try.prog 60 (.slice 68) (.slice none 0 0) 1 24 := ⟨Try.underlying60, by kernel_rfl⟩
instance ti61 : TI Try.prog 61 (.struct #[⟨ "sure", 54, 0, false, "", "tearoff/disk", 0⟩, ⟨ "pending", 60, 1, false, "", "tearoff/disk", 24⟩, ⟨ "plan", 30, 2, false, "", "tearoff/disk", 48⟩, ⟨ "count", 3, 4, false, "", "tearoff/disk", 80⟩, ⟨ "down", 4, 5, false, "", "tearoff/disk", 88⟩]) (.agg #[.slice none 0 0, .slice none 0 0, .slice none 0 0, .int .i64 0, .int .i64 0, .bool false]) 6 96 := ⟨Try.underlying61, by kernel_rfl⟩
instance si61 : SI Try.prog #[⟨ "sure", 54, 0, false, "", "tearoff/disk", 0⟩, ⟨ "pending", 60, 1, false, "", "tearoff/disk", 24⟩, ⟨ "plan", 30, 2, false, "", "tearoff/disk", 48⟩, ⟨ "count", 3, 4, false, "", "tearoff/disk", 80⟩, ⟨ "down", 4, 5, false, "", "tearoff/disk", 88⟩] [(0, 1), (1, 1), (2, 2), (4, 1), (5, 1)] := ⟨fun w => by kernel_rfl⟩
instance ti62 : TI Try.prog 62 (.struct #[⟨ "sure", 54, 0, false, "", "tearoff/disk", 0⟩, ⟨ "pending", 60, 1, false, "", "tearoff/disk", 24⟩, ⟨ "plan", 30, 2, false, "", "tearoff/disk", 48⟩, ⟨ "count", 3, 4, false, "", "tearoff/disk", 80⟩, ⟨ "down", 4, 5, false, "", "tearoff/disk", 88⟩]) (.agg #[.slice none 0 0, .slice none 0 0, .slice none 0 0, .int .i64 0, .int .i64 0, .bool false]) 6 96 := ⟨Try.underlying62, by kernel_rfl⟩
instance ti63 : TI Try.prog 63 (.func #[30] #[30] false) (.nilFunc) 1 8 := ⟨Try.underlying63, by kernel_rfl⟩
instance ti64 : TI Try.prog 64 (.func #[3] #[4] false) (.nilFunc) 1 8 := ⟨Try.underlying64, by kernel_rfl⟩
instance ti65 : TI Try.prog 65 (.func #[1] #[25] false) (.nilFunc) 1 8 := ⟨Try.underlying65, by kernel_rfl⟩
instance ti66 : TI Try.prog 66 (.func #[34] #[34] false) (.nilFunc) 1 8 := ⟨Try.underlying66, by kernel_rfl⟩
instance ti67 : TI Try.prog 67 (.struct #[⟨ "i", 3, 0, false, "", "tearoff/disk", 0⟩, ⟨ "b", 34, 1, false, "", "tearoff/disk", 8⟩]) (.agg #[.int .i64 0, .slice none 0 0]) 2 32 := ⟨Try.underlying67, by kernel_rfl⟩
instance si67 : SI Try.prog #[⟨ "i", 3, 0, false, "", "tearoff/disk", 0⟩, ⟨ "b", 34, 1, false, "", "tearoff/disk", 8⟩] [(0, 1), (1, 1)] := ⟨fun w => by kernel_rfl⟩
instance ti68 : TI Try.prog 68 (.struct #[⟨ "i", 3, 0, false, "", "tearoff/disk", 0⟩, ⟨ "b", 34, 1, false, "", "tearoff/disk", 8⟩]) (.agg #[.int .i64 0, .slice none 0 0]) 2 32 := ⟨Try.underlying68, by kernel_rfl⟩
instance ti69 : TI Try.prog 69 (.func #[] #[5] false) (.nilFunc) 1 8 := ⟨Try.underlying69, by kernel_rfl⟩
instance ti70 : TI Try.prog 70 (.func #[34] #[69] false) (.nilFunc) 1 8 := ⟨Try.underlying70, by kernel_rfl⟩
instance ti71 : TI Try.prog 71 (.func #[34, 34, 5] #[34] false) (.nilFunc) 1 8 := ⟨Try.underlying71, by kernel_rfl⟩
instance ti72 : TI Try.prog 72 (.func #[80] #[] false) (.nilFunc) 1 8 := ⟨Try.underlying72, by kernel_rfl⟩
instance ti73 : TI Try.prog 73 (.func #[80] #[] false) (.nilFunc) 1 8 := ⟨Try.underlying73, by kernel_rfl⟩
instance ti74 : TI Try.prog 74 (.func #[60] #[73] false) (.nilFunc) 1 8 := ⟨Try.underlying74, by kernel_rfl⟩
instance ti75 : TI Try.prog 75 (.func #[28] #[28] false) (.nilFunc) 1 8 := ⟨Try.underlying75, by kernel_rfl⟩
instance ti76 : TI Try.prog 76 (.struct #[⟨ "e", 25, 0, false, "", "tearoff/disk", 0⟩]) (.agg #[.int .i64 0]) 1 8 := ⟨Try.underlying76, by kernel_rfl⟩
instance si76 : SI Try.prog #[⟨ "e", 25, 0, false, "", "tearoff/disk", 0⟩] [(0, 1)] := ⟨fun w => by kernel_rfl⟩
instance ti77 : TI Try.prog 77 (.struct #[⟨ "e", 25, 0, false, "", "tearoff/disk", 0⟩]) (.agg #[.int .i64 0]) 1 8 := ⟨Try.underlying77, by kernel_rfl⟩
instance ti78 : TI Try.prog 78 (.func #[28, 3] #[4] false) (.nilFunc) 1 8 := ⟨Try.underlying78, by kernel_rfl⟩
instance ti79 : TI Try.prog 79 (.func #[54] #[34] true) (.nilFunc) 1 8 := ⟨Try.underlying79, by kernel_rfl⟩
instance ti80 : TI Try.prog 80 (.func #[3, 68] #[4] false) (.nilFunc) 1 8 := ⟨Try.underlying80, by kernel_rfl⟩
instance ti81 : TI Try.prog 81 (.func #[28, 3] #[3] false) (.nilFunc) 1 8 := ⟨Try.underlying81, by kernel_rfl⟩
instance ti82 : TI Try.prog 82 (.func #[34, 3] #[34] false) (.nilFunc) 1 8 := ⟨Try.underlying82, by kernel_rfl⟩
instance ti83 : TI Try.prog 83 (.func #[] #[9] false) (.nilFunc) 1 8 := ⟨Try.underlying83, by kernel_rfl⟩
instance ti84 : TI Try.prog 84 (.struct #[⟨ "_interface", 17, 0, false, "", "runtime", 0⟩, ⟨ "concrete", 17, 1, false, "", "runtime", 8⟩, ⟨ "asserted", 17, 2, false, "", "runtime", 16⟩, ⟨ "missingMethod", 9, 3, false, "", "runtime", 24⟩]) (.agg #[.pointer none, .pointer none, .pointer none, .string ⟨#[]⟩]) 4 40 := ⟨Try.underlying84, by kernel_rfl⟩
instance si84 : SI Try.prog #[⟨ "_interface", 17, 0, false, "", "runtime", 0⟩, ⟨ "concrete", 17, 1, false, "", "runtime", 8⟩, ⟨ "asserted", 17, 2, false, "", "runtime", 16⟩, ⟨ "missingMethod", 9, 3, false, "", "runtime", 24⟩] [(0, 1), (1, 1), (2, 1), (3, 1)] := ⟨fun w => by kernel_rfl⟩
instance ti85 : TI Try.prog 85 (.struct #[⟨ "_interface", 17, 0, false, "", "runtime", 0⟩, ⟨ "concrete", 17, 1, false, "", "runtime", 8⟩, ⟨ "asserted", 17, 2, false, "", "runtime", 16⟩, ⟨ "missingMethod", 9, 3, false, "", "runtime", 24⟩]) (.agg #[.pointer none, .pointer none, .pointer none, .string ⟨#[]⟩]) 4 40 := ⟨Try.underlying85, by kernel_rfl⟩
instance ti86 : TI Try.prog 86 (.array 0 16) (.agg #[]) 0 0 := ⟨Try.underlying86, by kernel_rfl⟩
instance ti87 : TI Try.prog 87 (.struct #[⟨ "_", 86, 0, false, "", "runtime", 0⟩]) (.agg #[]) 0 0 := ⟨Try.underlying87, by kernel_rfl⟩
instance si87 : SI Try.prog #[⟨ "_", 86, 0, false, "", "runtime", 0⟩] [(0, 0)] := ⟨fun w => by kernel_rfl⟩
instance ti88 : TI Try.prog 88 (.struct #[⟨ "_", 86, 0, false, "", "runtime", 0⟩]) (.agg #[]) 0 0 := ⟨Try.underlying88, by kernel_rfl⟩
instance ti89 : TI Try.prog 89 (.func #[] #[3] false) (.nilFunc) 1 8 := ⟨Try.underlying89, by kernel_rfl⟩
instance ti90 : TI Try.prog 90 (.int .u32) (.int .u32 0) 1 4 := ⟨Try.underlying90, by kernel_rfl⟩
instance ti91 : TI Try.prog 91 (.int .u8) (.int .u8 0) 1 1 := ⟨Try.underlying91, by kernel_rfl⟩
instance ti92 : TI Try.prog 92 (.int .u8) (.int .u8 0) 1 1 := ⟨Try.underlying92, by kernel_rfl⟩
instance ti93 : TI Try.prog 93 (.func #[101, 101] #[4] false) (.nilFunc) 1 8 := ⟨Try.underlying93, by kernel_rfl⟩
instance ti94 : TI Try.prog 94 (.pointer 5) (.pointer none) 1 8 := ⟨Try.underlying94, by kernel_rfl⟩
instance ti95 : TI Try.prog 95 (.int .i32) (.int .i32 0) 1 4 := ⟨Try.underlying95, by kernel_rfl⟩
instance ti96 : TI Try.prog 96 (.int .i32) (.int .i32 0) 1 4 := ⟨Try.underlying96, by kernel_rfl⟩
instance ti97 : TI Try.prog 97 (.struct #[⟨ "Size_", 12, 0, false, "", "", 0⟩, ⟨ "PtrBytes", 12, 1, false, "", "", 8⟩, ⟨ "Hash", 90, 2, false, "", "", 16⟩, ⟨ "TFlag", 91, 3, false, "", "", 20⟩, ⟨ "Align_", 5, 4, false, "", "", 21⟩, ⟨ "FieldAlign_", 5, 5, false, "", "", 22⟩, ⟨ "Kind_", 92, 6, false, "", "", 23⟩, ⟨ "Equal", 93, 7, false, "", "", 24⟩, ⟨ "GCData", 94, 8, false, "", "", 32⟩, ⟨ "Str", 95, 9, false, "", "", 40⟩, ⟨ "PtrToThis", 96, 10, false, "", "", 44⟩]) (.agg #[.int .u64 0, .int .u64 0, .int .u32 0, .int .u8 0, .int .u8 0, .int .u8 0, .int .u8 0, .nilFunc, .pointer none, .int .i32 0, .int .i32 0]) 11 48 := ⟨Try.underlying97, by kernel_rfl⟩
instance si97 : SI Try.prog #[⟨ "Size_", 12, 0, false, "", "", 0⟩, ⟨ "PtrBytes", 12, 1, false, "", "", 8⟩, ⟨ "Hash", 90, 2, false, "", "", 16⟩, ⟨ "TFlag", 91, 3, false, "", "", 20⟩, ⟨ "Align_", 5, 4, false, "", "", 21⟩, ⟨ "FieldAlign_", 5, 5, false, "", "", 22⟩, ⟨ "Kind_", 92, 6, false, "", "", 23⟩, ⟨ "Equal", 93, 7, false, "", "", 24⟩, ⟨ "GCData", 94, 8, false, "", "", 32⟩, ⟨ "Str", 95, 9, false, "", "", 40⟩, ⟨ "PtrToThis", 96, 10, false, "", "", 44⟩] [(0, 1), (1, 1), (2, 1), (3, 1), (4, 1), (5, 1), (6, 1), (7, 1), (8, 1), (9, 1), (10, 1)] := ⟨fun w => by kernel_rfl⟩
instance ti98 : TI Try.prog 98 (.struct #[⟨ "Size_", 12, 0, false, "", "", 0⟩, ⟨ "PtrBytes", 12, 1, false, "", "", 8⟩, ⟨ "Hash", 90, 2, false, "", "", 16⟩, ⟨ "TFlag", 91, 3, false, "", "", 20⟩, ⟨ "Align_", 5, 4, false, "", "", 21⟩, ⟨ "FieldAlign_", 5, 5, false, "", "", 22⟩, ⟨ "Kind_", 92, 6, false, "", "", 23⟩, ⟨ "Equal", 93, 7, false, "", "", 24⟩, ⟨ "GCData", 94, 8, false, "", "", 32⟩, ⟨ "Str", 95, 9, false, "", "", 40⟩, ⟨ "PtrToThis", 96, 10, false, "", "", 44⟩]) (.agg #[.int .u64 0, .int .u64 0, .int .u32 0, .int .u8 0, .int .u8 0, .int .u8 0, .int .u8 0, .nilFunc, .pointer none, .int .i32 0, .int .i32 0]) 11 48 := ⟨Try.underlying98, by kernel_rfl⟩
instance ti99 : TI Try.prog 99 (.struct #[⟨ "At", 3, 0, false, "", "", 0⟩, ⟨ "B", 34, 1, false, "", "", 8⟩]) (.agg #[.int .i64 0, .slice none 0 0]) 2 32 := ⟨Try.underlying99, by kernel_rfl⟩
instance si99 : SI Try.prog #[⟨ "At", 3, 0, false, "", "", 0⟩, ⟨ "B", 34, 1, false, "", "", 8⟩] [(0, 1), (1, 1)] := ⟨fun w => by kernel_rfl⟩
instance ti100 : TI Try.prog 100 (.struct #[⟨ "At", 3, 0, false, "", "", 0⟩, ⟨ "B", 34, 1, false, "", "", 8⟩]) (.agg #[.int .i64 0, .slice none 0 0]) 2 32 := ⟨Try.underlying100, by kernel_rfl⟩
instance ti101 : TI Try.prog 101 (.unsafePointer) (.pointer none) 1 8 := ⟨Try.underlying101, by kernel_rfl⟩
instance fo7_0 : FO Try.prog 7 0 0 1 false := ⟨_, _, _, _, _, Try.underlying7, rfl, ti2, rfl, rfl, by decide⟩
instance fo7_1 : FO Try.prog 7 1 1 1 false := ⟨_, _, _, _, _, Try.underlying7, rfl, ti3, rfl, rfl, by decide⟩
instance fo7_2 : FO Try.prog 7 2 2 1 false := ⟨_, _, _, _, _, Try.underlying7, rfl, ti4, rfl, rfl, by decide⟩
instance fo7_3 : FO Try.prog 7 3 3 1 false := ⟨_, _, _, _, _, Try.underlying7, rfl, ti6, rfl, rfl, by decide⟩
instance fo8_0 : FO Try.prog 8 0 0 1 false := ⟨_, _, _, _, _, Try.underlying8, rfl, ti2, rfl, rfl, by decide⟩
instance fo8_1 : FO Try.prog 8 1 1 1 false := ⟨_, _, _, _, _, Try.underlying8, rfl, ti3, rfl, rfl, by decide⟩
instance fo8_2 : FO Try.prog 8 2 2 1 false := ⟨_, _, _, _, _, Try.underlying8, rfl, ti4, rfl, rfl, by decide⟩
instance fo8_3 : FO Try.prog 8 3 3 1 false := ⟨_, _, _, _, _, Try.underlying8, rfl, ti6, rfl, rfl, by decide⟩
instance fo13_0 : FO Try.prog 13 0 0 1 false := ⟨_, _, _, _, _, Try.underlying13, rfl, ti9, rfl, rfl, by decide⟩
instance fo13_1 : FO Try.prog 13 1 1 1 false := ⟨_, _, _, _, _, Try.underlying13, rfl, ti12, rfl, rfl, by decide⟩
instance fo14_0 : FO Try.prog 14 0 0 1 false := ⟨_, _, _, _, _, Try.underlying14, rfl, ti9, rfl, rfl, by decide⟩
instance fo14_1 : FO Try.prog 14 1 1 1 false := ⟨_, _, _, _, _, Try.underlying14, rfl, ti12, rfl, rfl, by decide⟩
instance fo18_0 : FO Try.prog 18 0 0 1 false := ⟨_, _, _, _, _, Try.underlying18, rfl, ti17, rfl, rfl, by decide⟩
instance fo19_0 : FO Try.prog 19 0 0 1 false := ⟨_, _, _, _, _, Try.underlying19, rfl, ti17, rfl, rfl, by decide⟩
instance fo29_0 : FO Try.prog 29 0 0 1 false := ⟨_, _, _, _, _, Try.underlying29, rfl, ti28, rfl, rfl, by decide⟩
instance fo29_1 : FO Try.prog 29 1 1 1 false := ⟨_, _, _, _, _, Try.underlying29, rfl, ti3, rfl, rfl, by decide⟩
instance fo30_0 : FO Try.prog 30 0 0 1 false := ⟨_, _, _, _, _, Try.underlying30, rfl, ti28, rfl, rfl, by decide⟩
instance fo30_1 : FO Try.prog 30 1 1 1 false := ⟨_, _, _, _, _, Try.underlying30, rfl, ti3, rfl, rfl, by decide⟩
instance fo50_0 : FO Try.prog 50 0 0 1 false := ⟨_, _, _, _, _, Try.underlying50, rfl, ti3, rfl, rfl, by decide⟩
instance fo50_1 : FO Try.prog 50 1 1 1 false := ⟨_, _, _, _, _, Try.underlying50, rfl, ti3, rfl, rfl, by decide⟩
instance fo50_2 : FO Try.prog 50 2 2 1 false := ⟨_, _, _, _, _, Try.underlying50, rfl, ti5, rfl, rfl, by decide⟩
instance fo50_3 : FO Try.prog 50 3 3 1 false := ⟨_, _, _, _, _, Try.underlying50, rfl, ti4, rfl, rfl, by decide⟩
instance fo50_4 : FO Try.prog 50 4 4 1 false := ⟨_, _, _, _, _, Try.underlying50, rfl, ti34, rfl, rfl, by decide⟩
instance fo50_5 : FO Try.prog 50 5 5 2 true := ⟨_, _, _, _, _, Try.underlying50, rfl, ti30, rfl, rfl, by decide⟩
instance fo51_0 : FO Try.prog 51 0 0 1 false := ⟨_, _, _, _, _, Try.underlying51, rfl, ti3, rfl, rfl, by decide⟩
instance fo51_1 : FO Try.prog 51 1 1 1 false := ⟨_, _, _, _, _, Try.underlying51, rfl, ti3, rfl, rfl, by decide⟩
instance fo51_2 : FO Try.prog 51 2 2 1 false := ⟨_, _, _, _, _, Try.underlying51, rfl, ti5, rfl, rfl, by decide⟩
instance fo51_3 : FO Try.prog 51 3 3 1 false := ⟨_, _, _, _, _, Try.underlying51, rfl, ti4, rfl, rfl, by decide⟩
instance fo51_4 : FO Try.prog 51 4 4 1 false := ⟨_, _, _, _, _, Try.underlying51, rfl, ti34, rfl, rfl, by decide⟩
instance fo51_5 : FO Try.prog 51 5 5 2 true := ⟨_, _, _, _, _, Try.underlying51, rfl, ti30, rfl, rfl, by decide⟩
instance fo57_0 : FO Try.prog 57 0 0 1 false := ⟨_, _, _, _, _, Try.underlying57, rfl, ti56, rfl, rfl, by decide⟩
instance fo57_1 : FO Try.prog 57 1 1 1 false := ⟨_, _, _, _, _, Try.underlying57, rfl, ti54, rfl, rfl, by decide⟩
instance fo57_2 : FO Try.prog 57 2 2 1 false := ⟨_, _, _, _, _, Try.underlying57, rfl, ti28, rfl, rfl, by decide⟩
instance fo57_3 : FO Try.prog 57 3 3 1 false := ⟨_, _, _, _, _, Try.underlying57, rfl, ti54, rfl, rfl, by decide⟩
instance fo57_4 : FO Try.prog 57 4 4 2 true := ⟨_, _, _, _, _, Try.underlying57, rfl, ti30, rfl, rfl, by decide⟩
instance fo57_5 : FO Try.prog 57 5 6 1 false := ⟨_, _, _, _, _, Try.underlying57, rfl, ti3, rfl, rfl, by decide⟩
instance fo57_6 : FO Try.prog 57 6 7 1 false := ⟨_, _, _, _, _, Try.underlying57, rfl, ti4, rfl, rfl, by decide⟩
instance fo58_0 : FO Try.prog 58 0 0 1 false := ⟨_, _, _, _, _, Try.underlying58, rfl, ti56, rfl, rfl, by decide⟩
instance fo58_1 : FO Try.prog 58 1 1 1 false := ⟨_, _, _, _, _, Try.underlying58, rfl, ti54, rfl, rfl, by decide⟩
instance fo58_2 : FO Try.prog 58 2 2 1 false := ⟨_, _, _, _, _, Try.underlying58, rfl, ti28, rfl, rfl, by decide⟩
instance fo58_3 : FO Try.prog 58 3 3 1 false := ⟨_, _, _, _, _, Try.underlying58, rfl, ti54, rfl, rfl, by decide⟩
instance fo58_4 : FO Try.prog 58 4 4 2 true := ⟨_, _, _, _, _, Try.underlying58, rfl, ti30, rfl, rfl, by decide⟩
instance fo58_5 : FO Try.prog 58 5 6 1 false := ⟨_, _, _, _, _, Try.underlying58, rfl, ti3, rfl, rfl, by decide⟩
instance fo58_6 : FO Try.prog 58 6 7 1 false := ⟨_, _, _, _, _, Try.underlying58, rfl, ti4, rfl, rfl, by decide⟩
instance fo61_0 : FO Try.prog 61 0 0 1 false := ⟨_, _, _, _, _, Try.underlying61, rfl, ti54, rfl, rfl, by decide⟩
instance fo61_1 : FO Try.prog 61 1 1 1 false := ⟨_, _, _, _, _, Try.underlying61, rfl, ti60, rfl, rfl, by decide⟩
instance fo61_2 : FO Try.prog 61 2 2 2 true := ⟨_, _, _, _, _, Try.underlying61, rfl, ti30, rfl, rfl, by decide⟩
instance fo61_3 : FO Try.prog 61 3 4 1 false := ⟨_, _, _, _, _, Try.underlying61, rfl, ti3, rfl, rfl, by decide⟩
instance fo61_4 : FO Try.prog 61 4 5 1 false := ⟨_, _, _, _, _, Try.underlying61, rfl, ti4, rfl, rfl, by decide⟩
instance fo62_0 : FO Try.prog 62 0 0 1 false := ⟨_, _, _, _, _, Try.underlying62, rfl, ti54, rfl, rfl, by decide⟩
instance fo62_1 : FO Try.prog 62 1 1 1 false := ⟨_, _, _, _, _, Try.underlying62, rfl, ti60, rfl, rfl, by decide⟩
instance fo62_2 : FO Try.prog 62 2 2 2 true := ⟨_, _, _, _, _, Try.underlying62, rfl, ti30, rfl, rfl, by decide⟩
instance fo62_3 : FO Try.prog 62 3 4 1 false := ⟨_, _, _, _, _, Try.underlying62, rfl, ti3, rfl, rfl, by decide⟩
instance fo62_4 : FO Try.prog 62 4 5 1 false := ⟨_, _, _, _, _, Try.underlying62, rfl, ti4, rfl, rfl, by decide⟩
instance fo67_0 : FO Try.prog 67 0 0 1 false := ⟨_, _, _, _, _, Try.underlying67, rfl, ti3, rfl, rfl, by decide⟩
instance fo67_1 : FO Try.prog 67 1 1 1 false := ⟨_, _, _, _, _, Try.underlying67, rfl, ti34, rfl, rfl, by decide⟩
instance fo68_0 : FO Try.prog 68 0 0 1 false := ⟨_, _, _, _, _, Try.underlying68, rfl, ti3, rfl, rfl, by decide⟩
instance fo68_1 : FO Try.prog 68 1 1 1 false := ⟨_, _, _, _, _, Try.underlying68, rfl, ti34, rfl, rfl, by decide⟩
instance fo76_0 : FO Try.prog 76 0 0 1 false := ⟨_, _, _, _, _, Try.underlying76, rfl, ti25, rfl, rfl, by decide⟩
instance fo77_0 : FO Try.prog 77 0 0 1 false := ⟨_, _, _, _, _, Try.underlying77, rfl, ti25, rfl, rfl, by decide⟩
instance fo84_0 : FO Try.prog 84 0 0 1 false := ⟨_, _, _, _, _, Try.underlying84, rfl, ti17, rfl, rfl, by decide⟩
instance fo84_1 : FO Try.prog 84 1 1 1 false := ⟨_, _, _, _, _, Try.underlying84, rfl, ti17, rfl, rfl, by decide⟩
instance fo84_2 : FO Try.prog 84 2 2 1 false := ⟨_, _, _, _, _, Try.underlying84, rfl, ti17, rfl, rfl, by decide⟩
instance fo84_3 : FO Try.prog 84 3 3 1 false := ⟨_, _, _, _, _, Try.underlying84, rfl, ti9, rfl, rfl, by decide⟩
instance fo85_0 : FO Try.prog 85 0 0 1 false := ⟨_, _, _, _, _, Try.underlying85, rfl, ti17, rfl, rfl, by decide⟩
instance fo85_1 : FO Try.prog 85 1 1 1 false := ⟨_, _, _, _, _, Try.underlying85, rfl, ti17, rfl, rfl, by decide⟩
instance fo85_2 : FO Try.prog 85 2 2 1 false := ⟨_, _, _, _, _, Try.underlying85, rfl, ti17, rfl, rfl, by decide⟩
instance fo85_3 : FO Try.prog 85 3 3 1 false := ⟨_, _, _, _, _, Try.underlying85, rfl, ti9, rfl, rfl, by decide⟩
instance fo97_0 : FO Try.prog 97 0 0 1 false := ⟨_, _, _, _, _, Try.underlying97, rfl, ti12, rfl, rfl, by decide⟩
instance fo97_1 : FO Try.prog 97 1 1 1 false := ⟨_, _, _, _, _, Try.underlying97, rfl, ti12, rfl, rfl, by decide⟩
instance fo97_2 : FO Try.prog 97 2 2 1 false := ⟨_, _, _, _, _, Try.underlying97, rfl, ti90, rfl, rfl, by decide⟩
instance fo97_3 : FO Try.prog 97 3 3 1 false := ⟨_, _, _, _, _, Try.underlying97, rfl, ti91, rfl, rfl, by decide⟩
instance fo97_4 : FO Try.prog 97 4 4 1 false := ⟨_, _, _, _, _, Try.underlying97, rfl, ti5, rfl, rfl, by decide⟩
instance fo97_5 : FO Try.prog 97 5 5 1 false := ⟨_, _, _, _, _, Try.underlying97, rfl, ti5, rfl, rfl, by decide⟩
instance fo97_6 : FO Try.prog 97 6 6 1 false := ⟨_, _, _, _, _, Try.underlying97, rfl, ti92, rfl, rfl, by decide⟩
instance fo97_7 : FO Try.prog 97 7 7 1 false := ⟨_, _, _, _, _, Try.underlying97, rfl, ti93, rfl, rfl, by decide⟩
instance fo97_8 : FO Try.prog 97 8 8 1 false := ⟨_, _, _, _, _, Try.underlying97, rfl, ti94, rfl, rfl, by decide⟩
instance fo97_9 : FO Try.prog 97 9 9 1 false := ⟨_, _, _, _, _, Try.underlying97, rfl, ti95, rfl, rfl, by decide⟩
instance fo97_10 : FO Try.prog 97 10 10 1 false := ⟨_, _, _, _, _, Try.underlying97, rfl, ti96, rfl, rfl, by decide⟩
instance fo98_0 : FO Try.prog 98 0 0 1 false := ⟨_, _, _, _, _, Try.underlying98, rfl, ti12, rfl, rfl, by decide⟩
instance fo98_1 : FO Try.prog 98 1 1 1 false := ⟨_, _, _, _, _, Try.underlying98, rfl, ti12, rfl, rfl, by decide⟩
instance fo98_2 : FO Try.prog 98 2 2 1 false := ⟨_, _, _, _, _, Try.underlying98, rfl, ti90, rfl, rfl, by decide⟩
instance fo98_3 : FO Try.prog 98 3 3 1 false := ⟨_, _, _, _, _, Try.underlying98, rfl, ti91, rfl, rfl, by decide⟩
instance fo98_4 : FO Try.prog 98 4 4 1 false := ⟨_, _, _, _, _, Try.underlying98, rfl, ti5, rfl, rfl, by decide⟩
instance fo98_5 : FO Try.prog 98 5 5 1 false := ⟨_, _, _, _, _, Try.underlying98, rfl, ti5, rfl, rfl, by decide⟩
instance fo98_6 : FO Try.prog 98 6 6 1 false := ⟨_, _, _, _, _, Try.underlying98, rfl, ti92, rfl, rfl, by decide⟩
instance fo98_7 : FO Try.prog 98 7 7 1 false := ⟨_, _, _, _, _, Try.underlying98, rfl, ti93, rfl, rfl, by decide⟩
instance fo98_8 : FO Try.prog 98 8 8 1 false := ⟨_, _, _, _, _, Try.underlying98, rfl, ti94, rfl, rfl, by decide⟩
instance fo98_9 : FO Try.prog 98 9 9 1 false := ⟨_, _, _, _, _, Try.underlying98, rfl, ti95, rfl, rfl, by decide⟩
instance fo98_10 : FO Try.prog 98 10 10 1 false := ⟨_, _, _, _, _, Try.underlying98, rfl, ti96, rfl, rfl, by decide⟩
instance fo99_0 : FO Try.prog 99 0 0 1 false := ⟨_, _, _, _, _, Try.underlying99, rfl, ti3, rfl, rfl, by decide⟩
instance fo99_1 : FO Try.prog 99 1 1 1 false := ⟨_, _, _, _, _, Try.underlying99, rfl, ti34, rfl, rfl, by decide⟩
instance fo100_0 : FO Try.prog 100 0 0 1 false := ⟨_, _, _, _, _, Try.underlying100, rfl, ti3, rfl, rfl, by decide⟩
instance fo100_1 : FO Try.prog 100 1 1 1 false := ⟨_, _, _, _, _, Try.underlying100, rfl, ti34, rfl, rfl, by decide⟩
end Go.Proofs.Ytlednbmmchalkaa
