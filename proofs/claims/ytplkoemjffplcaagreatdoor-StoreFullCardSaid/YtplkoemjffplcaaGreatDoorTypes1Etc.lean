/-
Contracts of functions, each proved by a walk through its code.
-/
import Derived.Test.YtplkoemjffplcaaGreatDoorEngWEtc
import Derived.Test.YtplkoemjffplcaaGreatDoorProg
import Derived.Test.YtplkoemjffplcaaGreatDoorEngIEtc
set_option linter.all false
namespace Go.Proofs.YtplkoemjffplcaaGreatDoor
open Go.Eng
theorem hmix : Tryz.prog.follows .mixedOrders = true := by kernel_rfl
instance ti2 : TI Tryz.prog 2 (.int .i64) (.int .i64 0) 1 8 := ⟨Tryz.underlying2, by kernel_rfl⟩
instance ti3 : TI Tryz.prog 3 (.int .i64) (.int .i64 0) 1 8 := ⟨Tryz.underlying3, by kernel_rfl⟩
instance ti4 : TI Tryz.prog 4 (.bool) (.bool false) 1 1 := ⟨Tryz.underlying4, by kernel_rfl⟩
instance ti5 : TI Tryz.prog 5 (.int .u8) (.int .u8 0) 1 1 := ⟨Tryz.underlying5, by kernel_rfl⟩
instance ti9 : TI Tryz.prog 9 (.string) (.string ⟨#[]⟩) 1 16 := ⟨Tryz.underlying9, by kernel_rfl⟩
instance ti20 : TI Tryz.prog 20 (.interface #[]) (.nilIface) 1 16 := ⟨Tryz.underlying20, by kernel_rfl⟩
instance ti22 : TI Tryz.prog 22 (.slice 5) (.slice none 0 0) 1 24 := ⟨Tryz.underlying22, by kernel_rfl⟩
instance ti24 : TI Tryz.prog 24 (.pointer 75) (.pointer none) 1 8 := ⟨Tryz.underlying24, by kernel_rfl⟩
instance ti25 : TI Tryz.prog 25 (.int .i64) (.int .i64 0) 1 8 := ⟨Tryz.underlying25, by kernel_rfl⟩
instance ti28 : TI Tryz.prog 28 (.pointer 79) (.pointer none) 1 8 := ⟨Tryz.underlying28, by kernel_rfl⟩
instance ti31 : TI Tryz.prog 31 (.slice 63) (.slice none 0 0) 1 24 := ⟨Tryz.underlying31, by kernel_rfl⟩
instance si32 : SI Tryz.prog #[⟨ "Name", 22, 0, false, "", "", 0⟩, ⟨ "Secret", 22, 1, false, "", "", 24⟩] [(0, 1), (1, 1)] := ⟨fun w => by kernel_rfl⟩
instance ti33 : TI Tryz.prog 33 (.struct #[⟨ "Name", 22, 0, false, "", "", 0⟩, ⟨ "Secret", 22, 1, false, "", "", 24⟩]) (.agg #[.slice none 0 0, .slice none 0 0]) 2 48 := ⟨Tryz.underlying33, by kernel_rfl⟩
instance ti38 : TI Tryz.prog 38 (.int .u64) (.int .u64 0) 1 8 := ⟨Tryz.underlying38, by kernel_rfl⟩
instance ti44 : TI Tryz.prog 44 (.slice 22) (.slice none 0 0) 1 24 := ⟨Tryz.underlying44, by kernel_rfl⟩
instance ti48 : TI Tryz.prog 48 (.slice 9) (.slice none 0 0) 1 24 := ⟨Tryz.underlying48, by kernel_rfl⟩
instance ti61 : TI Tryz.prog 61 (.int .u32) (.int .u32 0) 1 4 := ⟨Tryz.underlying61, by kernel_rfl⟩
instance si62 : SI Tryz.prog #[⟨ "Ots", 61, 0, false, "", "", 0⟩, ⟨ "Tree", 61, 1, false, "", "", 4⟩] [(0, 1), (1, 1)] := ⟨fun w => by kernel_rfl⟩
instance ti63 : TI Tryz.prog 63 (.struct #[⟨ "Ots", 61, 0, false, "", "", 0⟩, ⟨ "Tree", 61, 1, false, "", "", 4⟩]) (.agg #[.int .u32 0, .int .u32 0]) 2 8 := ⟨Tryz.underlying63, by kernel_rfl⟩
instance ti68 : TI Tryz.prog 68 (.slice 3) (.slice none 0 0) 1 24 := ⟨Tryz.underlying68, by kernel_rfl⟩
instance ti70 : TI Tryz.prog 70 (.struct #[⟨ "Fail", 68, 0, false, "", "", 0⟩, ⟨ "Stop", 3, 1, false, "", "", 24⟩]) (.agg #[.slice none 0 0, .int .i64 0]) 2 32 := ⟨Tryz.underlying70, by kernel_rfl⟩
instance ti73 : TI Tryz.prog 73 (.slice 141) (.slice none 0 0) 1 24 := ⟨Tryz.underlying73, by kernel_rfl⟩
instance si74 : SI Tryz.prog #[⟨ "sure", 44, 0, false, "", "tearoff/disk", 0⟩, ⟨ "pending", 73, 1, false, "", "tearoff/disk", 24⟩, ⟨ "plan", 70, 2, false, "", "tearoff/disk", 48⟩, ⟨ "count", 3, 4, false, "", "tearoff/disk", 80⟩, ⟨ "down", 4, 5, false, "", "tearoff/disk", 88⟩] [(0, 1), (1, 1), (2, 2), (4, 1), (5, 1)] := ⟨fun w => by kernel_rfl⟩
instance ti75 : TI Tryz.prog 75 (.struct #[⟨ "sure", 44, 0, false, "", "tearoff/disk", 0⟩, ⟨ "pending", 73, 1, false, "", "tearoff/disk", 24⟩, ⟨ "plan", 70, 2, false, "", "tearoff/disk", 48⟩, ⟨ "count", 3, 4, false, "", "tearoff/disk", 80⟩, ⟨ "down", 4, 5, false, "", "tearoff/disk", 88⟩]) (.agg #[.slice none 0 0, .slice none 0 0, .slice none 0 0, .int .i64 0, .int .i64 0, .bool false]) 6 96 := ⟨Tryz.underlying75, by kernel_rfl⟩
instance ti77 : TI Tryz.prog 77 (.map 9 81) (.map none) 1 8 := ⟨Tryz.underlying77, by kernel_rfl⟩
instance si78 : SI Tryz.prog #[⟨ "d", 24, 0, false, "", "tearoff/store", 0⟩, ⟨ "n", 3, 1, false, "", "tearoff/store", 8⟩, ⟨ "keys", 77, 2, false, "", "tearoff/store", 16⟩] [(0, 1), (1, 1), (2, 1)] := ⟨fun w => by kernel_rfl⟩
instance ti79 : TI Tryz.prog 79 (.struct #[⟨ "d", 24, 0, false, "", "tearoff/store", 0⟩, ⟨ "n", 3, 1, false, "", "tearoff/store", 8⟩, ⟨ "keys", 77, 2, false, "", "tearoff/store", 16⟩]) (.agg #[.pointer none, .int .i64 0, .map none]) 3 24 := ⟨Tryz.underlying79, by kernel_rfl⟩
instance ti81 : TI Tryz.prog 81 (.pointer 100) (.pointer none) 1 8 := ⟨Tryz.underlying81, by kernel_rfl⟩
instance ti86 : TI Tryz.prog 86 (.slice 31) (.slice none 0 0) 1 24 := ⟨Tryz.underlying86, by kernel_rfl⟩
instance ti89 : TI Tryz.prog 89 (.pointer 163) (.pointer none) 1 8 := ⟨Tryz.underlying89, by kernel_rfl⟩
instance ti92 : TI Tryz.prog 92 (.pointer 215) (.pointer none) 1 8 := ⟨Tryz.underlying92, by kernel_rfl⟩
instance si96 : SI Tryz.prog #[⟨ "name", 9, 0, false, "", "tearoff/store", 0⟩, ⟨ "l", 31, 1, false, "", "tearoff/store", 16⟩, ⟨ "seed", 33, 2, false, "", "tearoff/store", 40⟩] [(0, 1), (1, 1), (2, 2)] := ⟨fun w => by kernel_rfl⟩
instance ti97 : TI Tryz.prog 97 (.struct #[⟨ "name", 9, 0, false, "", "tearoff/store", 0⟩, ⟨ "l", 31, 1, false, "", "tearoff/store", 16⟩, ⟨ "seed", 33, 2, false, "", "tearoff/store", 40⟩]) (.agg #[.string ⟨#[]⟩, .slice none 0 0, .slice none 0 0, .slice none 0 0]) 4 88 := ⟨Tryz.underlying97, by kernel_rfl⟩
instance si99 : SI Tryz.prog #[⟨ "l", 31, 0, false, "", "tearoff/store", 0⟩, ⟨ "seed", 33, 1, false, "", "tearoff/store", 24⟩, ⟨ "c", 89, 3, false, "", "tearoff/store", 72⟩] [(0, 1), (1, 2), (3, 1)] := ⟨fun w => by kernel_rfl⟩
instance ti100 : TI Tryz.prog 100 (.struct #[⟨ "l", 31, 0, false, "", "tearoff/store", 0⟩, ⟨ "seed", 33, 1, false, "", "tearoff/store", 24⟩, ⟨ "c", 89, 3, false, "", "tearoff/store", 72⟩]) (.agg #[.slice none 0 0, .slice none 0 0, .slice none 0 0, .pointer none]) 4 80 := ⟨Tryz.underlying100, by kernel_rfl⟩
instance si102 : SI Tryz.prog #[⟨ "Code", 61, 0, false, "", "", 0⟩, ⟨ "Kind", 3, 1, false, "", "", 8⟩, ⟨ "N", 3, 2, false, "", "", 16⟩, ⟨ "W", 3, 3, false, "", "", 24⟩, ⟨ "P", 3, 4, false, "", "", 32⟩, ⟨ "Shift", 3, 5, false, "", "", 40⟩] [(0, 1), (1, 1), (2, 1), (3, 1), (4, 1), (5, 1)] := ⟨fun w => by kernel_rfl⟩
instance ti103 : TI Tryz.prog 103 (.struct #[⟨ "Code", 61, 0, false, "", "", 0⟩, ⟨ "Kind", 3, 1, false, "", "", 8⟩, ⟨ "N", 3, 2, false, "", "", 16⟩, ⟨ "W", 3, 3, false, "", "", 24⟩, ⟨ "P", 3, 4, false, "", "", 32⟩, ⟨ "Shift", 3, 5, false, "", "", 40⟩]) (.agg #[.int .u32 0, .int .i64 0, .int .i64 0, .int .i64 0, .int .i64 0, .int .i64 0]) 6 48 := ⟨Tryz.underlying103, by kernel_rfl⟩
instance si104 : SI Tryz.prog #[⟨ "Code", 61, 0, false, "", "", 0⟩, ⟨ "Kind", 3, 1, false, "", "", 8⟩, ⟨ "N", 3, 2, false, "", "", 16⟩, ⟨ "H", 3, 3, false, "", "", 24⟩] [(0, 1), (1, 1), (2, 1), (3, 1)] := ⟨fun w => by kernel_rfl⟩
instance ti105 : TI Tryz.prog 105 (.struct #[⟨ "Code", 61, 0, false, "", "", 0⟩, ⟨ "Kind", 3, 1, false, "", "", 8⟩, ⟨ "N", 3, 2, false, "", "", 16⟩, ⟨ "H", 3, 3, false, "", "", 24⟩]) (.agg #[.int .u32 0, .int .i64 0, .int .i64 0, .int .i64 0]) 4 32 := ⟨Tryz.underlying105, by kernel_rfl⟩
instance ti114 : TI Tryz.prog 114 (.slice 121) (.slice none 0 0) 1 24 := ⟨Tryz.underlying114, by kernel_rfl⟩
instance ti118 : TI Tryz.prog 118 (.slice 61) (.slice none 0 0) 1 24 := ⟨Tryz.underlying118, by kernel_rfl⟩
instance si120 : SI Tryz.prog #[⟨ "p", 63, 0, false, "", "tearoff/hss", 0⟩, ⟨ "s", 33, 2, false, "", "tearoff/hss", 8⟩, ⟨ "q", 61, 4, false, "", "tearoff/hss", 56⟩] [(0, 2), (2, 2), (4, 1)] := ⟨fun w => by kernel_rfl⟩
instance ti121 : TI Tryz.prog 121 (.struct #[⟨ "p", 63, 0, false, "", "tearoff/hss", 0⟩, ⟨ "s", 33, 2, false, "", "tearoff/hss", 8⟩, ⟨ "q", 61, 4, false, "", "tearoff/hss", 56⟩]) (.agg #[.int .u32 0, .int .u32 0, .slice none 0 0, .slice none 0 0, .int .u32 0]) 5 64 := ⟨Tryz.underlying121, by kernel_rfl⟩
instance si140 : SI Tryz.prog #[⟨ "i", 3, 0, false, "", "tearoff/disk", 0⟩, ⟨ "b", 22, 1, false, "", "tearoff/disk", 8⟩] [(0, 1), (1, 1)] := ⟨fun w => by kernel_rfl⟩
instance ti141 : TI Tryz.prog 141 (.struct #[⟨ "i", 3, 0, false, "", "tearoff/disk", 0⟩, ⟨ "b", 22, 1, false, "", "tearoff/disk", 8⟩]) (.agg #[.int .i64 0, .slice none 0 0]) 2 32 := ⟨Tryz.underlying141, by kernel_rfl⟩
instance ti144 : TI Tryz.prog 144 (.slice 151) (.slice none 0 0) 1 24 := ⟨Tryz.underlying144, by kernel_rfl⟩
instance si150 : SI Tryz.prog #[⟨ "key", 22, 0, false, "", "tearoff/hss", 0⟩, ⟨ "sig", 22, 1, false, "", "tearoff/hss", 24⟩, ⟨ "next", 22, 2, false, "", "tearoff/hss", 48⟩] [(0, 1), (1, 1), (2, 1)] := ⟨fun w => by kernel_rfl⟩
instance ti151 : TI Tryz.prog 151 (.struct #[⟨ "key", 22, 0, false, "", "tearoff/hss", 0⟩, ⟨ "sig", 22, 1, false, "", "tearoff/hss", 24⟩, ⟨ "next", 22, 2, false, "", "tearoff/hss", 48⟩]) (.agg #[.slice none 0 0, .slice none 0 0, .slice none 0 0]) 3 72 := ⟨Tryz.underlying151, by kernel_rfl⟩
instance si153 : SI Tryz.prog #[⟨ "e", 25, 0, false, "", "tearoff/store", 0⟩] [(0, 1)] := ⟨fun w => by kernel_rfl⟩
instance ti154 : TI Tryz.prog 154 (.struct #[⟨ "e", 25, 0, false, "", "tearoff/store", 0⟩]) (.agg #[.int .i64 0]) 1 8 := ⟨Tryz.underlying154, by kernel_rfl⟩
instance si156 : SI Tryz.prog #[⟨ "Total", 38, 0, false, "", "", 0⟩, ⟨ "Batch", 38, 1, false, "", "", 8⟩, ⟨ "Reserved", 38, 2, false, "", "", 16⟩, ⟨ "Next", 38, 3, false, "", "", 24⟩, ⟨ "Retired", 4, 4, false, "", "", 32⟩] [(0, 1), (1, 1), (2, 1), (3, 1), (4, 1)] := ⟨fun w => by kernel_rfl⟩
instance ti157 : TI Tryz.prog 157 (.struct #[⟨ "Total", 38, 0, false, "", "", 0⟩, ⟨ "Batch", 38, 1, false, "", "", 8⟩, ⟨ "Reserved", 38, 2, false, "", "", 16⟩, ⟨ "Next", 38, 3, false, "", "", 24⟩, ⟨ "Retired", 4, 4, false, "", "", 32⟩]) (.agg #[.int .u64 0, .int .u64 0, .int .u64 0, .int .u64 0, .bool false]) 5 40 := ⟨Tryz.underlying157, by kernel_rfl⟩
instance si162 : SI Tryz.prog #[⟨ "Counted", 157, 0, true, "", "", 0⟩, ⟨ "head", 22, 5, false, "", "tearoff/reserve", 40⟩, ⟨ "s", 92, 6, false, "", "tearoff/reserve", 64⟩] [(0, 5), (5, 1), (6, 1)] := ⟨fun w => by kernel_rfl⟩
instance ti163 : TI Tryz.prog 163 (.struct #[⟨ "Counted", 157, 0, true, "", "", 0⟩, ⟨ "head", 22, 5, false, "", "tearoff/reserve", 40⟩, ⟨ "s", 92, 6, false, "", "tearoff/reserve", 64⟩]) (.agg #[.int .u64 0, .int .u64 0, .int .u64 0, .int .u64 0, .bool false, .slice none 0 0, .pointer none]) 7 72 := ⟨Tryz.underlying163, by kernel_rfl⟩
instance ti169 : TI Tryz.prog 169 (.slice 105) (.slice none 0 0) 1 24 := ⟨Tryz.underlying169, by kernel_rfl⟩
instance si179 : SI Tryz.prog #[⟨ "e", 25, 0, false, "", "tearoff/hss", 0⟩] [(0, 1)] := ⟨fun w => by kernel_rfl⟩
instance ti180 : TI Tryz.prog 180 (.struct #[⟨ "e", 25, 0, false, "", "tearoff/hss", 0⟩]) (.agg #[.int .i64 0]) 1 8 := ⟨Tryz.underlying180, by kernel_rfl⟩
instance si201 : SI Tryz.prog #[⟨ "o", 103, 0, false, "", "tearoff/lms", 0⟩, ⟨ "t", 105, 6, false, "", "tearoff/lms", 48⟩] [(0, 6), (6, 4)] := ⟨fun w => by kernel_rfl⟩
instance ti202 : TI Tryz.prog 202 (.struct #[⟨ "o", 103, 0, false, "", "tearoff/lms", 0⟩, ⟨ "t", 105, 6, false, "", "tearoff/lms", 48⟩]) (.agg #[.int .u32 0, .int .i64 0, .int .i64 0, .int .i64 0, .int .i64 0, .int .i64 0, .int .u32 0, .int .i64 0, .int .i64 0, .int .i64 0]) 10 80 := ⟨Tryz.underlying202, by kernel_rfl⟩
instance si212 : SI Tryz.prog #[⟨ "num", 38, 0, false, "", "tearoff/slots", 0⟩, ⟨ "b", 22, 1, false, "", "tearoff/slots", 8⟩] [(0, 1), (1, 1)] := ⟨fun w => by kernel_rfl⟩
instance ti213 : TI Tryz.prog 213 (.struct #[⟨ "num", 38, 0, false, "", "tearoff/slots", 0⟩, ⟨ "b", 22, 1, false, "", "tearoff/slots", 8⟩]) (.agg #[.int .u64 0, .slice none 0 0]) 2 32 := ⟨Tryz.underlying213, by kernel_rfl⟩
instance si214 : SI Tryz.prog #[⟨ "d", 24, 0, false, "", "tearoff/slots", 0⟩, ⟨ "first", 3, 1, false, "", "tearoff/slots", 8⟩, ⟨ "n", 3, 2, false, "", "tearoff/slots", 16⟩, ⟨ "at", 3, 3, false, "", "tearoff/slots", 24⟩, ⟨ "now", 213, 4, false, "", "tearoff/slots", 32⟩] [(0, 1), (1, 1), (2, 1), (3, 1), (4, 2)] := ⟨fun w => by kernel_rfl⟩
instance ti215 : TI Tryz.prog 215 (.struct #[⟨ "d", 24, 0, false, "", "tearoff/slots", 0⟩, ⟨ "first", 3, 1, false, "", "tearoff/slots", 8⟩, ⟨ "n", 3, 2, false, "", "tearoff/slots", 16⟩, ⟨ "at", 3, 3, false, "", "tearoff/slots", 24⟩, ⟨ "now", 213, 4, false, "", "tearoff/slots", 32⟩]) (.agg #[.pointer none, .int .i64 0, .int .i64 0, .int .i64 0, .int .u64 0, .slice none 0 0]) 6 64 := ⟨Tryz.underlying215, by kernel_rfl⟩
instance ti223 : TI Tryz.prog 223 (.struct #[⟨ "kind", 3, 0, false, "", "tearoff/sets", 0⟩, ⟨ "n", 3, 1, false, "", "tearoff/sets", 8⟩]) (.agg #[.int .i64 0, .int .i64 0]) 2 16 := ⟨Tryz.underlying223, by kernel_rfl⟩
instance ti226 : TI Tryz.prog 226 (.array 4 3) (.agg #[.int .i64 0, .int .i64 0, .int .i64 0, .int .i64 0]) 4 32 := ⟨Tryz.underlying226, by kernel_rfl⟩
instance ti229 : TI Tryz.prog 229 (.int .u16) (.int .u16 0) 1 2 := ⟨Tryz.underlying229, by kernel_rfl⟩
instance ti241 : TI Tryz.prog 241 (.int .u64) (.int .u64 0) 1 8 := ⟨Tryz.underlying241, by kernel_rfl⟩
instance si247 : SI Tryz.prog #[⟨ "e", 25, 0, false, "", "tearoff/lms", 0⟩] [(0, 1)] := ⟨fun w => by kernel_rfl⟩
instance ti248 : TI Tryz.prog 248 (.struct #[⟨ "e", 25, 0, false, "", "tearoff/lms", 0⟩]) (.agg #[.int .i64 0]) 1 8 := ⟨Tryz.underlying248, by kernel_rfl⟩
instance si258 : SI Tryz.prog #[⟨ "e", 25, 0, false, "", "tearoff/slots", 0⟩] [(0, 1)] := ⟨fun w => by kernel_rfl⟩
instance ti259 : TI Tryz.prog 259 (.struct #[⟨ "e", 25, 0, false, "", "tearoff/slots", 0⟩]) (.agg #[.int .i64 0]) 1 8 := ⟨Tryz.underlying259, by kernel_rfl⟩
instance ti269 : TI Tryz.prog 269 (.array 5 3) (.agg #[.int .i64 0, .int .i64 0, .int .i64 0, .int .i64 0, .int .i64 0]) 5 40 := ⟨Tryz.underlying269, by kernel_rfl⟩
instance si272 : SI Tryz.prog #[] [] := ⟨fun w => by kernel_rfl⟩
instance ti273 : TI Tryz.prog 273 (.struct #[]) (.agg #[]) 0 0 := ⟨Tryz.underlying273, by kernel_rfl⟩
instance ti274 : TI Tryz.prog 274 (.array 4 223) (.agg #[.int .i64 0, .int .i64 0, .int .i64 0, .int .i64 0, .int .i64 0, .int .i64 0, .int .i64 0, .int .i64 0]) 8 64 := ⟨Tryz.underlying274, by kernel_rfl⟩
instance ti276 : TI Tryz.prog 276 (.slice 44) (.slice none 0 0) 1 24 := ⟨Tryz.underlying276, by kernel_rfl⟩
instance ti295 : TI Tryz.prog 295 (.array 2 22) (.agg #[.slice none 0 0, .slice none 0 0]) 2 48 := ⟨Tryz.underlying295, by kernel_rfl⟩
instance si299 : SI Tryz.prog #[⟨ "e", 25, 0, false, "", "tearoff/octet", 0⟩] [(0, 1)] := ⟨fun w => by kernel_rfl⟩
instance ti300 : TI Tryz.prog 300 (.struct #[⟨ "e", 25, 0, false, "", "tearoff/octet", 0⟩]) (.agg #[.int .i64 0]) 1 8 := ⟨Tryz.underlying300, by kernel_rfl⟩
instance si335 : SI Tryz.prog #[⟨ "e", 25, 0, false, "", "tearoff/disk", 0⟩] [(0, 1)] := ⟨fun w => by kernel_rfl⟩
instance ti336 : TI Tryz.prog 336 (.struct #[⟨ "e", 25, 0, false, "", "tearoff/disk", 0⟩]) (.agg #[.int .i64 0]) 1 8 := ⟨Tryz.underlying336, by kernel_rfl⟩
instance ti340 : TI Tryz.prog 340 (.struct #[]) (.agg #[]) 0 0 := ⟨Tryz.underlying340, by kernel_rfl⟩
instance ti344 : TI Tryz.prog 344 (.array 8 61) (.agg #[.int .u32 0, .int .u32 0, .int .u32 0, .int .u32 0, .int .u32 0, .int .u32 0, .int .u32 0, .int .u32 0]) 8 32 := ⟨Tryz.underlying344, by kernel_rfl⟩
instance si345 : SI Tryz.prog #[⟨ "state", 344, 0, false, "", "tearoff/sha2", 0⟩, ⟨ "rest", 22, 8, false, "", "tearoff/sha2", 32⟩, ⟨ "n", 38, 9, false, "", "tearoff/sha2", 56⟩] [(0, 8), (8, 1), (9, 1)] := ⟨fun w => by kernel_rfl⟩
instance ti346 : TI Tryz.prog 346 (.struct #[⟨ "state", 344, 0, false, "", "tearoff/sha2", 0⟩, ⟨ "rest", 22, 8, false, "", "tearoff/sha2", 32⟩, ⟨ "n", 38, 9, false, "", "tearoff/sha2", 56⟩]) (.agg #[.int .u32 0, .int .u32 0, .int .u32 0, .int .u32 0, .int .u32 0, .int .u32 0, .int .u32 0, .int .u32 0, .slice none 0 0, .int .u64 0]) 10 64 := ⟨Tryz.underlying346, by kernel_rfl⟩
instance ti347 : TI Tryz.prog 347 (.array 64 5) (.agg #[.int .u8 0, .int .u8 0, .int .u8 0, .int .u8 0, .int .u8 0, .int .u8 0, .int .u8 0, .int .u8 0, .int .u8 0, .int .u8 0, .int .u8 0, .int .u8 0, .int .u8 0, .int .u8 0, .int .u8 0, .int .u8 0, .int .u8 0, .int .u8 0, .int .u8 0, .int .u8 0, .int .u8 0, .int .u8 0, .int .u8 0, .int .u8 0, .int .u8 0, .int .u8 0, .int .u8 0, .int .u8 0, .int .u8 0, .int .u8 0, .int .u8 0, .int .u8 0, .int .u8 0, .int .u8 0, .int .u8 0, .int .u8 0, .int .u8 0, .int .u8 0, .int .u8 0, .int .u8 0, .int .u8 0, .int .u8 0, .int .u8 0, .int .u8 0, .int .u8 0, .int .u8 0, .int .u8 0, .int .u8 0, .int .u8 0, .int .u8 0, .int .u8 0, .int .u8 0, .int .u8 0, .int .u8 0, .int .u8 0, .int .u8 0, .int .u8 0, .int .u8 0, .int .u8 0, .int .u8 0, .int .u8 0, .int .u8 0, .int .u8 0, .int .u8 0]) 64 64 := ⟨Tryz.underlying347, by kernel_rfl⟩
instance ti354 : TI Tryz.prog 354 (.array 64 61) (.agg #[.int .u32 0, .int .u32 0, .int .u32 0, .int .u32 0, .int .u32 0, .int .u32 0, .int .u32 0, .int .u32 0, .int .u32 0, .int .u32 0, .int .u32 0, .int .u32 0, .int .u32 0, .int .u32 0, .int .u32 0, .int .u32 0, .int .u32 0, .int .u32 0, .int .u32 0, .int .u32 0, .int .u32 0, .int .u32 0, .int .u32 0, .int .u32 0, .int .u32 0, .int .u32 0, .int .u32 0, .int .u32 0, .int .u32 0, .int .u32 0, .int .u32 0, .int .u32 0, .int .u32 0, .int .u32 0, .int .u32 0, .int .u32 0, .int .u32 0, .int .u32 0, .int .u32 0, .int .u32 0, .int .u32 0, .int .u32 0, .int .u32 0, .int .u32 0, .int .u32 0, .int .u32 0, .int .u32 0, .int .u32 0, .int .u32 0, .int .u32 0, .int .u32 0, .int .u32 0, .int .u32 0, .int .u32 0, .int .u32 0, .int .u32 0, .int .u32 0, .int .u32 0, .int .u32 0, .int .u32 0, .int .u32 0, .int .u32 0, .int .u32 0, .int .u32 0]) 64 256 := ⟨Tryz.underlying354, by kernel_rfl⟩
instance ti357 : TI Tryz.prog 357 (.array 25 38) (.agg #[.int .u64 0, .int .u64 0, .int .u64 0, .int .u64 0, .int .u64 0, .int .u64 0, .int .u64 0, .int .u64 0, .int .u64 0, .int .u64 0, .int .u64 0, .int .u64 0, .int .u64 0, .int .u64 0, .int .u64 0, .int .u64 0, .int .u64 0, .int .u64 0, .int .u64 0, .int .u64 0, .int .u64 0, .int .u64 0, .int .u64 0, .int .u64 0, .int .u64 0]) 25 200 := ⟨Tryz.underlying357, by kernel_rfl⟩
instance si358 : SI Tryz.prog #[⟨ "s", 357, 0, false, "", "tearoff/shake", 0⟩, ⟨ "rest", 22, 25, false, "", "tearoff/shake", 200⟩] [(0, 25), (25, 1)] := ⟨fun w => by kernel_rfl⟩
instance ti359 : TI Tryz.prog 359 (.struct #[⟨ "s", 357, 0, false, "", "tearoff/shake", 0⟩, ⟨ "rest", 22, 25, false, "", "tearoff/shake", 200⟩]) (.agg #[.int .u64 0, .int .u64 0, .int .u64 0, .int .u64 0, .int .u64 0, .int .u64 0, .int .u64 0, .int .u64 0, .int .u64 0, .int .u64 0, .int .u64 0, .int .u64 0, .int .u64 0, .int .u64 0, .int .u64 0, .int .u64 0, .int .u64 0, .int .u64 0, .int .u64 0, .int .u64 0, .int .u64 0, .int .u64 0, .int .u64 0, .int .u64 0, .int .u64 0, .slice none 0 0]) 26 224 := ⟨Tryz.underlying359, by kernel_rfl⟩
instance ti367 : TI Tryz.prog 367 (.array 25 3) (.agg #[.int .i64 0, .int .i64 0, .int .i64 0, .int .i64 0, .int .i64 0, .int .i64 0, .int .i64 0, .int .i64 0, .int .i64 0, .int .i64 0, .int .i64 0, .int .i64 0, .int .i64 0, .int .i64 0, .int .i64 0, .int .i64 0, .int .i64 0, .int .i64 0, .int .i64 0, .int .i64 0, .int .i64 0, .int .i64 0, .int .i64 0, .int .i64 0, .int .i64 0]) 25 200 := ⟨Tryz.underlying367, by kernel_rfl⟩
instance ti368 : TI Tryz.prog 368 (.array 24 38) (.agg #[.int .u64 0, .int .u64 0, .int .u64 0, .int .u64 0, .int .u64 0, .int .u64 0, .int .u64 0, .int .u64 0, .int .u64 0, .int .u64 0, .int .u64 0, .int .u64 0, .int .u64 0, .int .u64 0, .int .u64 0, .int .u64 0, .int .u64 0, .int .u64 0, .int .u64 0, .int .u64 0, .int .u64 0, .int .u64 0, .int .u64 0, .int .u64 0]) 24 192 := ⟨Tryz.underlying368, by kernel_rfl⟩
instance ti369 : TI Tryz.prog 369 (.array 5 38) (.agg #[.int .u64 0, .int .u64 0, .int .u64 0, .int .u64 0, .int .u64 0]) 5 40 := ⟨Tryz.underlying369, by kernel_rfl⟩
instance fo33_0 : FO Tryz.prog 33 0 0 1 false := ⟨_, _, _, _, _, Tryz.underlying33, rfl, ti22, rfl, rfl, by decide⟩
instance fo33_1 : FO Tryz.prog 33 1 1 1 false := ⟨_, _, _, _, _, Tryz.underlying33, rfl, ti22, rfl, rfl, by decide⟩
instance fo63_0 : FO Tryz.prog 63 0 0 1 false := ⟨_, _, _, _, _, Tryz.underlying63, rfl, ti61, rfl, rfl, by decide⟩
instance fo63_1 : FO Tryz.prog 63 1 1 1 false := ⟨_, _, _, _, _, Tryz.underlying63, rfl, ti61, rfl, rfl, by decide⟩
instance fo70_0 : FO Tryz.prog 70 0 0 1 false := ⟨_, _, _, _, _, Tryz.underlying70, rfl, ti68, rfl, rfl, by decide⟩
instance fo70_1 : FO Tryz.prog 70 1 1 1 false := ⟨_, _, _, _, _, Tryz.underlying70, rfl, ti3, rfl, rfl, by decide⟩
instance fo75_0 : FO Tryz.prog 75 0 0 1 false := ⟨_, _, _, _, _, Tryz.underlying75, rfl, ti44, rfl, rfl, by decide⟩
instance fo75_1 : FO Tryz.prog 75 1 1 1 false := ⟨_, _, _, _, _, Tryz.underlying75, rfl, ti73, rfl, rfl, by decide⟩
instance fo75_2 : FO Tryz.prog 75 2 2 2 true := ⟨_, _, _, _, _, Tryz.underlying75, rfl, ti70, rfl, rfl, by decide⟩
instance fo75_3 : FO Tryz.prog 75 3 4 1 false := ⟨_, _, _, _, _, Tryz.underlying75, rfl, ti3, rfl, rfl, by decide⟩
instance fo75_4 : FO Tryz.prog 75 4 5 1 false := ⟨_, _, _, _, _, Tryz.underlying75, rfl, ti4, rfl, rfl, by decide⟩
instance fo79_0 : FO Tryz.prog 79 0 0 1 false := ⟨_, _, _, _, _, Tryz.underlying79, rfl, ti24, rfl, rfl, by decide⟩
instance fo79_1 : FO Tryz.prog 79 1 1 1 false := ⟨_, _, _, _, _, Tryz.underlying79, rfl, ti3, rfl, rfl, by decide⟩
instance fo79_2 : FO Tryz.prog 79 2 2 1 false := ⟨_, _, _, _, _, Tryz.underlying79, rfl, ti77, rfl, rfl, by decide⟩
instance fo97_0 : FO Tryz.prog 97 0 0 1 false := ⟨_, _, _, _, _, Tryz.underlying97, rfl, ti9, rfl, rfl, by decide⟩
instance fo97_1 : FO Tryz.prog 97 1 1 1 false := ⟨_, _, _, _, _, Tryz.underlying97, rfl, ti31, rfl, rfl, by decide⟩
instance fo97_2 : FO Tryz.prog 97 2 2 2 true := ⟨_, _, _, _, _, Tryz.underlying97, rfl, ti33, rfl, rfl, by decide⟩
instance fo100_0 : FO Tryz.prog 100 0 0 1 false := ⟨_, _, _, _, _, Tryz.underlying100, rfl, ti31, rfl, rfl, by decide⟩
instance fo100_1 : FO Tryz.prog 100 1 1 2 true := ⟨_, _, _, _, _, Tryz.underlying100, rfl, ti33, rfl, rfl, by decide⟩
instance fo100_2 : FO Tryz.prog 100 2 3 1 false := ⟨_, _, _, _, _, Tryz.underlying100, rfl, ti89, rfl, rfl, by decide⟩
instance fo103_0 : FO Tryz.prog 103 0 0 1 false := ⟨_, _, _, _, _, Tryz.underlying103, rfl, ti61, rfl, rfl, by decide⟩
instance fo103_1 : FO Tryz.prog 103 1 1 1 false := ⟨_, _, _, _, _, Tryz.underlying103, rfl, ti3, rfl, rfl, by decide⟩
instance fo103_2 : FO Tryz.prog 103 2 2 1 false := ⟨_, _, _, _, _, Tryz.underlying103, rfl, ti3, rfl, rfl, by decide⟩
instance fo103_3 : FO Tryz.prog 103 3 3 1 false := ⟨_, _, _, _, _, Tryz.underlying103, rfl, ti3, rfl, rfl, by decide⟩
instance fo103_4 : FO Tryz.prog 103 4 4 1 false := ⟨_, _, _, _, _, Tryz.underlying103, rfl, ti3, rfl, rfl, by decide⟩
instance fo105_0 : FO Tryz.prog 105 0 0 1 false := ⟨_, _, _, _, _, Tryz.underlying105, rfl, ti61, rfl, rfl, by decide⟩
instance fo105_1 : FO Tryz.prog 105 1 1 1 false := ⟨_, _, _, _, _, Tryz.underlying105, rfl, ti3, rfl, rfl, by decide⟩
instance fo105_2 : FO Tryz.prog 105 2 2 1 false := ⟨_, _, _, _, _, Tryz.underlying105, rfl, ti3, rfl, rfl, by decide⟩
instance fo105_3 : FO Tryz.prog 105 3 3 1 false := ⟨_, _, _, _, _, Tryz.underlying105, rfl, ti3, rfl, rfl, by decide⟩
instance fo121_0 : FO Tryz.prog 121 0 0 2 true := ⟨_, _, _, _, _, Tryz.underlying121, rfl, ti63, rfl, rfl, by decide⟩
instance fo121_1 : FO Tryz.prog 121 1 2 2 true := ⟨_, _, _, _, _, Tryz.underlying121, rfl, ti33, rfl, rfl, by decide⟩
instance fo121_2 : FO Tryz.prog 121 2 4 1 false := ⟨_, _, _, _, _, Tryz.underlying121, rfl, ti61, rfl, rfl, by decide⟩
instance fo141_0 : FO Tryz.prog 141 0 0 1 false := ⟨_, _, _, _, _, Tryz.underlying141, rfl, ti3, rfl, rfl, by decide⟩
instance fo141_1 : FO Tryz.prog 141 1 1 1 false := ⟨_, _, _, _, _, Tryz.underlying141, rfl, ti22, rfl, rfl, by decide⟩
instance fo151_0 : FO Tryz.prog 151 0 0 1 false := ⟨_, _, _, _, _, Tryz.underlying151, rfl, ti22, rfl, rfl, by decide⟩
instance fo151_1 : FO Tryz.prog 151 1 1 1 false := ⟨_, _, _, _, _, Tryz.underlying151, rfl, ti22, rfl, rfl, by decide⟩
instance fo151_2 : FO Tryz.prog 151 2 2 1 false := ⟨_, _, _, _, _, Tryz.underlying151, rfl, ti22, rfl, rfl, by decide⟩
instance fo154_0 : FO Tryz.prog 154 0 0 1 false := ⟨_, _, _, _, _, Tryz.underlying154, rfl, ti25, rfl, rfl, by decide⟩
instance fo157_0 : FO Tryz.prog 157 0 0 1 false := ⟨_, _, _, _, _, Tryz.underlying157, rfl, ti38, rfl, rfl, by decide⟩
instance fo157_1 : FO Tryz.prog 157 1 1 1 false := ⟨_, _, _, _, _, Tryz.underlying157, rfl, ti38, rfl, rfl, by decide⟩
instance fo157_2 : FO Tryz.prog 157 2 2 1 false := ⟨_, _, _, _, _, Tryz.underlying157, rfl, ti38, rfl, rfl, by decide⟩
instance fo157_3 : FO Tryz.prog 157 3 3 1 false := ⟨_, _, _, _, _, Tryz.underlying157, rfl, ti38, rfl, rfl, by decide⟩
instance fo157_4 : FO Tryz.prog 157 4 4 1 false := ⟨_, _, _, _, _, Tryz.underlying157, rfl, ti4, rfl, rfl, by decide⟩
instance fo163_0 : FO Tryz.prog 163 0 0 5 true := ⟨_, _, _, _, _, Tryz.underlying163, rfl, ti157, rfl, rfl, by decide⟩
instance fo163_1 : FO Tryz.prog 163 1 5 1 false := ⟨_, _, _, _, _, Tryz.underlying163, rfl, ti22, rfl, rfl, by decide⟩
instance fo163_2 : FO Tryz.prog 163 2 6 1 false := ⟨_, _, _, _, _, Tryz.underlying163, rfl, ti92, rfl, rfl, by decide⟩
instance fo180_0 : FO Tryz.prog 180 0 0 1 false := ⟨_, _, _, _, _, Tryz.underlying180, rfl, ti25, rfl, rfl, by decide⟩
instance fo202_0 : FO Tryz.prog 202 0 0 6 true := ⟨_, _, _, _, _, Tryz.underlying202, rfl, ti103, rfl, rfl, by decide⟩
instance fo202_1 : FO Tryz.prog 202 1 6 4 true := ⟨_, _, _, _, _, Tryz.underlying202, rfl, ti105, rfl, rfl, by decide⟩
instance fo213_0 : FO Tryz.prog 213 0 0 1 false := ⟨_, _, _, _, _, Tryz.underlying213, rfl, ti38, rfl, rfl, by decide⟩
instance fo213_1 : FO Tryz.prog 213 1 1 1 false := ⟨_, _, _, _, _, Tryz.underlying213, rfl, ti22, rfl, rfl, by decide⟩
instance fo215_0 : FO Tryz.prog 215 0 0 1 false := ⟨_, _, _, _, _, Tryz.underlying215, rfl, ti24, rfl, rfl, by decide⟩
instance fo215_1 : FO Tryz.prog 215 1 1 1 false := ⟨_, _, _, _, _, Tryz.underlying215, rfl, ti3, rfl, rfl, by decide⟩
instance fo215_2 : FO Tryz.prog 215 2 2 1 false := ⟨_, _, _, _, _, Tryz.underlying215, rfl, ti3, rfl, rfl, by decide⟩
instance fo215_3 : FO Tryz.prog 215 3 3 1 false := ⟨_, _, _, _, _, Tryz.underlying215, rfl, ti3, rfl, rfl, by decide⟩
instance fo215_4 : FO Tryz.prog 215 4 4 2 true := ⟨_, _, _, _, _, Tryz.underlying215, rfl, ti213, rfl, rfl, by decide⟩
instance fo223_0 : FO Tryz.prog 223 0 0 1 false := ⟨_, _, _, _, _, Tryz.underlying223, rfl, ti3, rfl, rfl, by decide⟩
instance fo223_1 : FO Tryz.prog 223 1 1 1 false := ⟨_, _, _, _, _, Tryz.underlying223, rfl, ti3, rfl, rfl, by decide⟩
instance fo248_0 : FO Tryz.prog 248 0 0 1 false := ⟨_, _, _, _, _, Tryz.underlying248, rfl, ti25, rfl, rfl, by decide⟩
instance fo259_0 : FO Tryz.prog 259 0 0 1 false := ⟨_, _, _, _, _, Tryz.underlying259, rfl, ti25, rfl, rfl, by decide⟩
instance fo300_0 : FO Tryz.prog 300 0 0 1 false := ⟨_, _, _, _, _, Tryz.underlying300, rfl, ti25, rfl, rfl, by decide⟩
instance fo336_0 : FO Tryz.prog 336 0 0 1 false := ⟨_, _, _, _, _, Tryz.underlying336, rfl, ti25, rfl, rfl, by decide⟩
instance fo346_0 : FO Tryz.prog 346 0 0 8 true := ⟨_, _, _, _, _, Tryz.underlying346, rfl, ti344, rfl, rfl, by decide⟩
instance fo346_1 : FO Tryz.prog 346 1 8 1 false := ⟨_, _, _, _, _, Tryz.underlying346, rfl, ti22, rfl, rfl, by decide⟩
instance fo346_2 : FO Tryz.prog 346 2 9 1 false := ⟨_, _, _, _, _, Tryz.underlying346, rfl, ti38, rfl, rfl, by decide⟩
instance fo359_0 : FO Tryz.prog 359 0 0 25 true := ⟨_, _, _, _, _, Tryz.underlying359, rfl, ti357, rfl, rfl, by decide⟩
instance fo359_1 : FO Tryz.prog 359 1 25 1 false := ⟨_, _, _, _, _, Tryz.underlying359, rfl, ti22, rfl, rfl, by decide⟩
theorem eqs103 {a0 b0 : Int} {a1 b1 : Int} {a2 b2 : Int} {a3 b3 : Int} {a4 b4 : Int} {a5 b5 : Int} : EqS Tryz.prog 103 [.int .u32 a0, .int .i64 a1, .int .i64 a2, .int .i64 a3, .int .i64 a4, .int .i64 a5] [.int .u32 b0, .int .i64 b1, .int .i64 b2, .int .i64 b3, .int .i64 b4, .int .i64 b5] (a0 = b0 ∧ (a1 = b1 ∧ (a2 = b2 ∧ (a3 = b3 ∧ (a4 = b4 ∧ (a5 = b5 ∧ True)))))) := eqS_of _ Tryz.underlying103 (by kernel_rfl) (by kernel_rfl) (eqF_int (by decide) rfl rfl (eqF_int (by decide) rfl rfl (eqF_int (by decide) rfl rfl (eqF_int (by decide) rfl rfl (eqF_int (by decide) rfl rfl (eqF_int (by decide) rfl rfl eqF_nil))))))
theorem eqs105 {a0 b0 : Int} {a1 b1 : Int} {a2 b2 : Int} {a3 b3 : Int} : EqS Tryz.prog 105 [.int .u32 a0, .int .i64 a1, .int .i64 a2, .int .i64 a3] [.int .u32 b0, .int .i64 b1, .int .i64 b2, .int .i64 b3] (a0 = b0 ∧ (a1 = b1 ∧ (a2 = b2 ∧ (a3 = b3 ∧ True)))) := eqS_of _ Tryz.underlying105 (by kernel_rfl) (by kernel_rfl) (eqF_int (by decide) rfl rfl (eqF_int (by decide) rfl rfl (eqF_int (by decide) rfl rfl (eqF_int (by decide) rfl rfl eqF_nil))))
theorem eqs157 {a0 b0 : Int} {a1 b1 : Int} {a2 b2 : Int} {a3 b3 : Int} {a4 b4 : Bool} : EqS Tryz.prog 157 [.int .u64 a0, .int .u64 a1, .int .u64 a2, .int .u64 a3, .bool a4] [.int .u64 b0, .int .u64 b1, .int .u64 b2, .int .u64 b3, .bool b4] (a0 = b0 ∧ (a1 = b1 ∧ (a2 = b2 ∧ (a3 = b3 ∧ (a4 = b4 ∧ True))))) := eqS_of _ Tryz.underlying157 (by kernel_rfl) (by kernel_rfl) (eqF_int (by decide) rfl rfl (eqF_int (by decide) rfl rfl (eqF_int (by decide) rfl rfl (eqF_int (by decide) rfl rfl (eqF_bool (by decide) rfl rfl eqF_nil)))))
end Go.Proofs.YtplkoemjffplcaaGreatDoor
namespace Go.Proofs.YtplkoemjffplcaaGreatDoor
open Go Go.Eng
theorem bytesClone_spec {G : World} {M : Mem} {L : Own} {A : Option Addr} {n c : Nat} {bs : List UInt8} (h : Bytes M A n c bs) (hn : n ≤ 140737488355328) :
  Con Tryz.prog 55 #[.slice A n c] G M L (fun v M' L' => L' = L ∧ ∃ A' c', v = .slice A' n c' ∧ Bytes M' A' n c' bs) noPanic := by
 refine zfn Tryz.func55 rfl 8 rfl <| zr <| as0 rfl <| zq <| zr2 <| mvS rfl <| tl_y rfl (y_eqNilSlice rfl rfl) <| zq <| x_condb rfl (fun hc1 => ?_) (fun hc1 => ?_)
 ·
  obtain rfl : A = none := by simpa using hc1
  have h0 : n = 0 := by
   rcases Nat.eq_zero_or_pos n with h0 | h0
   ·
    exact h0
   obtain ⟨b, o, e, _⟩ := h.addr h0; cases e
  subst h0
  have hb : bs = [] := List.eq_nil_of_length_eq_zero h.size
  subst hb
  refine zr <| as0 rfl <| zq <| x_ret (.then_ret (ret1 rfl rfl lR ⟨rfl, none, 0, rfl, Row.nil _ _⟩))
 refine x_skip <| .then_normal <| zr <| tl_e rfl <| e_buildSlice0 <| fun b1 => mvS rfl <| tl_e rfl <| e_append1 (by decide) rfl rfl OwnRow.made00 (.row h) (all_one_bv bs) (by omega) (by omega) <| fun A' cap' E hE => ?_
 rw [Nat.zero_add, List.nil_append] at hE; rw [Nat.zero_add]
 refine asS rfl <| zq <| .s1 2 rfl <| x_ret (.pubRow hE fun M' hle hr => ret1 rfl rfl hle ⟨rfl, _, _, rfl, hr⟩)
abbrev Ints (M : Mem) (A : Option Addr) (n cap : Nat) (xs : List Int) : Prop := Row M 1 A n cap (xs.map (.int .i64))
theorem Ints.size {M : Mem} {A : Option Addr} {n cap : Nat} {xs : List Int} (h : Ints M A n cap xs) : xs.length = n := by have := h.len; simpa using this
def noneOf (xs : List Int) (x : Int) (k : Nat) : Prop := ∀ j, j < k → xs.getD j 0 ≠ x
theorem noneOf_succ {xs : List Int} {x : Int} {k : Nat} (h : noneOf xs x k) (hk : ¬ x = xs.getD k 0) : noneOf xs x (k + 1) := fun j hj => by
 rcases Nat.lt_or_ge j k with hlt | hge
 ·
  exact h j hlt
 obtain rfl : j = k := by omega
 exact Ne.symm hk
theorem indexInts_spec {G : World} {M : Mem} {L : Own} {A : Option Addr} {n c : Nat} {xs : List Int} (h : Ints M A n c xs) (x : Int) :
  Con Tryz.prog 266 #[.slice A n c, .int .i64 x] G M L (fun v M' L' => M' = M ∧ L' = L ∧ ∃ r : Int, v = .int .i64 r ∧ (0 ≤ r ↔ x ∈ xs)) noPanic := by
 have hs := h.size
 have hmx := h.max
 have hle := h.le
 refine zfn Tryz.func266 rfl 19 rfl <| zr <| as0 rfl <| zq <| zr2 <| mvS rfl <| tLen rfl <| mv0 rfl <| zq <| x_block ?_
 refine x_loop (I := fun m' F D M1 L1 => ∃ k : Nat, m' = n - k ∧ k ≤ n ∧ noneOf xs x k ∧ D = [] ∧ M1 = M ∧ L1 = L ∧ F = [(0, .slice A n c), (1, .int .i64 x), (4, .int .i64 0), (7, .int .i64 n), (8, .int .i64 k)]) (n) (F0 := [(0, _), (1, _), (4, _), (7, _), (8, _)]) ?_ (cs5 rfl rfl rfl rfl rfl) ?_
 ·
  exact ⟨0, rfl, by omega, (fun j h => by omega), rfl, rfl, rfl, rfl⟩
 rintro m _ _ M1 L1 ⟨k, rfl, hk, hno, rfl, rfl, rfl, rfl⟩
 refine zr <| tl_y rfl (y_lss rfl rfl) <| zq <| x_seq <| x_cond rfl (fun hc1 => ?_) (fun hc1 => ?_)
 ·
  have hkn : k < n := by omega
  obtain ⟨p, o, rfl, hca⟩ := h.addr (by omega)
  have hcell := hca L1 k (.int .i64 (xs.getD k 0)) (by simp [hs, hkn])
  refine x_skip <| .then_normal <| x_seq <| x_block <| zr <| mvI rfl <| asI rfl <| zq <| zr <| mvI rfl <| mvS rfl <| mvI rfl <| tl_y rfl (y_indexAddr rfl rfl (by omega)) <| tl_y rfl (y_load rfl rfl (.at_ hcell (by omega))) <| tl_y rfl (y_eql rfl rfl) <| zq <| .s7 0 1 4 5 7 8 16 rfl rfl rfl rfl rfl rfl rfl <| x_cond rfl (fun hc2 => ?_) (fun hc2 => ?_)
  ·
   refine zr <| mvI rfl <| asI rfl <| zq <| x_ret (.block_ret (.then_ret (.loop_ret (.block_ret (.then_ret (ret1 rfl rfl lR ⟨rfl, rfl, _, rfl, iff_of_true (by omega) (by rw [hc2, List.getD_eq_getElem?_getD, List.getElem?_eq_getElem (by omega)]; simp)⟩))))))
  refine x_skip <| .block_normal <| .then_normal <| x_region <| tl_y rfl (y_addI rfl rfl (by omega)) <| mvI rfl <| tl_nil <| .loop_next (m' := n - (k + 1)) (by omega) (F' := [(0, _), (1, _), (4, _), (7, _), (8, _)]) (cs5 rfl rfl rfl rfl rfl) ?_
  exact ⟨k + 1, rfl, by omega, noneOf_succ hno hc2, rfl, rfl, rfl, rfl⟩
 refine x_exit <| .then_exit <| .loop_exit <| .block_exit <| .then_normal <| .s0 <| zr <| as0 rfl <| zq <| x_ret (ret1 rfl rfl lR ⟨rfl, rfl, _, rfl, iff_of_false (by omega) (fun hm => by obtain ⟨j, hj, he⟩ := List.getElem_of_mem hm; exact hno j (by omega) (by rw [List.getD_eq_getElem?_getD, List.getElem?_eq_getElem hj]; simpa using he))⟩)
theorem containsInts_spec {G : World} {M : Mem} {L : Own} {A : Option Addr} {n c : Nat} {xs : List Int} (h : Ints M A n c xs) (x : Int) :
  Con Tryz.prog 240 #[.slice A n c, .int .i64 x] G M L (fun v M' L' => M' = M ∧ L' = L ∧ v = .bool (decide (x ∈ xs))) noPanic := by
 refine zfn Tryz.func240 rfl 9 rfl <| zr <| as0 rfl <| zq <| zr <| mvS rfl <| mvI rfl <| zca rfl (indexInts_spec h x) ?_
 rintro _ M1 L1 hM1 ⟨rfl, rfl, r, rfl, hr⟩
 refine tl_y rfl (y_geq rfl rfl) <| asB rfl <| zq <| .s1 4 rfl <| x_ret (ret1 rfl rfl lR ⟨rfl, rfl, by congr 1; exact decide_eq_decide.2 hr⟩)
theorem src_in {M : Mem} {L : Own} {s n : Nat} {A : Option Addr} {vs : List Value} {p : Nat × Obj} (h : RowIn M L s A n vs) : Src M (p :: L) s A n vs := ⟨h.len, fun w hw h0 => by
 rcases Nat.eq_zero_or_pos n with h1 | h1
 ·
  subst h1; simp at h0
 obtain ⟨b, o, e, hc⟩ := h.addr h1
 exact ⟨_, e, fun j v hj => by rw [add_plain]; exact hc j v hj w ⟨hw.ro, fun q hq => hw.own q (List.mem_cons_of_mem _ hq)⟩⟩⟩
section
variable {G : World} {M : Mem} {L R : Own}
theorem bytesClone_own {A : Option Addr} {n c : Nat} {bs : List UInt8} (h : RowIn M L 1 A n (bs.map bv)) (hn : n ≤ 140737488355328) :
  Con Tryz.prog 55 #[.slice A n c] G M L (fun v M' L' => M = M' ∧ ∃ A' c' E, v = .slice A' n c' ∧ OwnRow 5 1 A' n c' (bs.map bv) E ∧ L' = E ++ L) noPanic := by
 have hbl : bs.length = n := by have := h.len; simpa using this
 refine zfn Tryz.func55 rfl 8 rfl <| zr <| as0 rfl <| zq <| zr2 <| mvS rfl <| tl_y rfl (y_eqNilSlice rfl rfl) <| zq <| x_condb rfl (fun hc1 => ?_) (fun hc1 => ?_)
 ·
  obtain rfl : A = none := by simpa using hc1
  have h0 : n = 0 := by
   rcases Nat.eq_zero_or_pos n with h0 | h0
   ·
    exact h0
   obtain ⟨b, o, e, _⟩ := h.addr h0; cases e
  subst h0
  have hb : bs = [] := List.eq_nil_of_length_eq_zero hbl
  subst hb
  refine zr <| as0 rfl <| zq <| x_ret (.then_ret (ret1 rfl rfl lR ⟨rfl, none, 0, [], rfl, .nil, rfl⟩))
 refine x_skip <| .then_normal <| zr <| tl_e rfl <| e_buildSlice0 <| fun b1 => mvS rfl <| tl_e rfl <| e_append1 (by decide) rfl rfl OwnRow.made00 (src_in h) (all_one_bv bs) (by omega) (by omega) <| fun A' cap' E hE => ?_
 rw [Nat.zero_add, List.nil_append] at hE; rw [Nat.zero_add]
 refine asS rfl <| zq <| .s1 2 rfl <| x_ret (ret1 rfl rfl lR ⟨rfl, _, _, E, rfl, hE, rfl⟩)
end
def rotl (x : UInt64) (s : Nat) : UInt64 := shl64 x s ||| shr64 x (64 - s)
def kTurns : List Nat := [0, 1, 62, 28, 27, 36, 44, 6, 55, 20, 3, 10, 43, 25, 39, 41, 45, 15, 21, 8, 18, 2, 61, 56, 14]
def kRc : List UInt64 := [0x0000000000000001, 0x0000000000008082, 0x800000000000808a, 0x8000000080008000,
 0x000000000000808b, 0x0000000080000001, 0x8000000080008081, 0x8000000000008009,
 0x000000000000008a, 0x0000000000000088, 0x0000000080008009, 0x000000008000000a,
 0x000000008000808b, 0x800000000000008b, 0x8000000000008089, 0x8000000000008003,
 0x8000000000008002, 0x8000000000000080, 0x000000000000800a, 0x800000008000000a,
 0x8000000080008081, 0x8000000000008080, 0x0000000080000001, 0x8000000080008008]
def updL (l : List UInt64) (i : Nat) (f : UInt64 → UInt64) : List UInt64 := l.set i (f (l.getD i 0))
theorem updL_length (l : List UInt64) (i : Nat) (f : UInt64 → UInt64) : (updL l i f).length = l.length := by simp [updL]
def kCols (a : List UInt64) : Nat → List UInt64
 | 0 => List.replicate 5 0
 | k + 1 => updL (kCols a k) (k % 5) (· ^^^ a.getD k 0)
def kTheta (c a : List UInt64) : Nat → List UInt64
 | 0 => a
 | k + 1 => updL (kTheta c a k) k (· ^^^ (c.getD ((k % 5 + 4) % 5) 0 ^^^ rotl (c.getD ((k % 5 + 1) % 5) 0) 1))
def kRho (a : List UInt64) : Nat → List UInt64
 | 0 => List.replicate 25 0
 | k + 1 => (kRho a k).set (k / 5 + 5 * ((2 * (k % 5) + 3 * (k / 5)) % 5)) (rotl (a.getD k 0) (kTurns.getD k 0))
def kChi (b a : List UInt64) : Nat → List UInt64
 | 0 => a
 | k + 1 => (kChi b a k).set k (b.getD k 0 ^^^ (~~~ (b.getD (k / 5 * 5 + (k % 5 + 1) % 5) 0) &&& b.getD (k / 5 * 5 + (k % 5 + 2) % 5) 0))
def kThetaA (a : List UInt64) : List UInt64 := kTheta (kCols a 25) a 25
def kRound (a : List UInt64) (rc : UInt64) : List UInt64 := updL (kChi (kRho (kThetaA a) 25) (kThetaA a) 25) 0 (· ^^^ rc)
def kPerm (a : List UInt64) : Nat → List UInt64
 | 0 => a
 | k + 1 => kRound (kPerm a k) (kRc.getD k 0)
theorem kCols_length (a : List UInt64) (k : Nat) : (kCols a k).length = 5 := by
 induction k with
 | zero => simp [kCols]
 | succ k ih => rw [kCols, updL_length, ih]
theorem kTheta_length (c a : List UInt64) (k : Nat) : (kTheta c a k).length = a.length := by
 induction k with
 | zero => simp [kTheta]
 | succ k ih => rw [kTheta, updL_length, ih]
theorem kRho_length (a : List UInt64) (k : Nat) : (kRho a k).length = 25 := by
 induction k with
 | zero => simp [kRho]
 | succ k ih => rw [kRho, List.length_set, ih]
theorem kChi_length (b a : List UInt64) (k : Nat) : (kChi b a k).length = a.length := by
 induction k with
 | zero => simp [kChi]
 | succ k ih => rw [kChi, List.length_set, ih]
theorem kRound_length (a : List UInt64) (rc : UInt64) : (kRound a rc).length = a.length := by
 rw [kRound, updL_length, kChi_length, kThetaA, kTheta_length]
theorem kPerm_length (a : List UInt64) (k : Nat) : (kPerm a k).length = a.length := by
 induction k with
 | zero => rfl
 | succ k ih => rw [kPerm, kRound_length, ih]
section
variable {G : World} {M : Mem} {L : Own}
theorem get_u64' (w : List UInt64) (i : Nat) (h : i < w.length) : (w.map u64v)[i]? = some (u64v (w.getD i 0)) := by
 rw [List.getElem?_map, List.getD_eq_getElem?_getD, List.getElem?_eq_getElem h]; rfl
theorem u64_one (w : List UInt64) : (w.map u64v).all one = true := by simp [one, Value.oneCell']
theorem rl64_a : ∀ n : Fin 64, (UInt64.ofInt (n.val : Int) &&& 63).toNat = n.val ∧ (64 - (UInt64.ofInt (n.val : Int) &&& 63)).toNat = 64 - n.val := by decide +kernel
theorem rotl64_spec (x : UInt64) (n : Nat) (hn : n < 64) :
  Con Tryz.prog 288 #[.int .u64 (x.toNat : Int), .int .i64 (n : Int)] G M L (fun r M' L' => M = M' ∧ L = L' ∧ r = .int .u64 ((rotl x n).toNat : Int)) noPanic := by
 obtain ⟨h1, h2⟩ := rl64_a ⟨n, hn⟩
 refine zfn Tryz.func288 rfl 17 rfl <| zr <| as0 rfl <| zq <| zr <| mvI rfl <| tl_y rfl (y_of64 rfl) <| tl_y rfl (y_and64 (b := 63) rfl rfl) <| asI rfl <| zq <| .s2 0 5 rfl rfl <| zr <| mvI rfl <| mvI rfl <| tl_y rfl (y_shl64 rfl rfl) <| mvI rfl <| mvI rfl <| tl_y rfl (y_sub64 (a := 64) rfl rfl) <| tl_y rfl (y_shr64 rfl rfl) <| tl_y rfl (y_or64 rfl rfl) <| asI rfl <| zq <| .s1 4 rfl <| x_ret (ret1 rfl rfl lR ⟨rfl, rfl, by
  have e1 : (UInt64.ofInt (n : Int) &&& 63).toNat = n := h1
  have e2 : (64 - (UInt64.ofInt (n : Int) &&& 63)).toNat = 64 - n := h2
  rw [e1, e2]; rfl⟩)
abbrev kB (b : Nat) (a : List UInt64) : Nat × Obj := (b, .cells (a.map u64v).toArray 357 (0, 0))
theorem theta_spec {b : Nat} {a : List UInt64} (hl : a.length = 25) :
  Con Tryz.prog 287 #[.pointer (some ⟨b, 0, none⟩)] G M (kB b a :: L) (fun r M' L' => M = M' ∧ L' = kB b (kThetaA a) :: L) noPanic := by
 refine zfn Tryz.func287 rfl 48 rfl <| zr <| tl_e rfl <| e_alloc <| fun b1 => zq <| zr2 <| mvP rfl <| mv0 rfl <| zq <| x_block ?_
 refine x_loop (I := fun m' F D M2 L1 => ∃ k : Nat, m' = 25 - k ∧ k ≤ 25 ∧ D = [] ∧ M = M2 ∧ L1 = (b1, .cells ((kCols a k).map u64v).toArray 369 (0, 0)) :: kB b a :: L ∧ F = [(0, .pointer (some ⟨b, 0, none⟩)), (2, .pointer (some ⟨b1, 0, none⟩)), (7, .pointer (some ⟨b, 0, none⟩)), (8, .int .i64 k)]) (25) (F0 := [(0, _), (2, _), (7, _), (8, _)]) ?_ (cs4 rfl rfl rfl rfl) ?_
 ·
  exact ⟨0, rfl, by omega, rfl, rfl, rfl, rfl⟩
 rintro m _ _ M2 L1 ⟨k, rfl, hk, rfl, rfl, rfl, rfl⟩
 refine zr <| tl_y rfl (y_lss rfl rfl) <| zq <| x_seq <| x_cond rfl (fun hc1 => ?_) (fun hc1 => ?_)
 ·
  refine x_skip <| .then_normal <| x_seq <| x_block <| x_seq <| x_draw 6 hmix rfl <| pmI 0 rfl rfl <| zp 1 rfl rfl (y_nilCheck rfl) <| zp 2 rfl rfl (y_indexArr rfl rfl (by omega)) <| zy 3 rfl rfl (y_load rfl rfl (.at_ (.ownAt (i := k) (c := a.map u64v) iI (get_u64' _ _ (by omega))) (by omega))) <| paI 4 rfl rfl ?_
  refine paI 5 rfl rfl <| zz <| .then_normal <| .s6 0 2 3 4 7 8 rfl rfl rfl rfl rfl rfl <| x_region <| mvI rfl <| tl_y rfl (y_remI rfl rfl (by omega)) <| tl_y rfl (y_indexArr rfl rfl (by omega)) <| tl_y rfl (y_load rfl rfl (.at_ (.ownAt (i := k % 5) (c := (kCols a k).map u64v) iI (get_u64' _ _ (by rw [kCols_length]; omega))) (by omega))) <| mvI rfl <| tl_y rfl (y_xor64 rfl rfl) ?_
  refine tl_y rfl (y_indexArr rfl rfl (by omega)) <| tl_e rfl <| e_storeAt (c := (kCols a k).map u64v) rfl rfl rfl iI (by rw [List.length_map, kCols_length]; omega) iI ?_
  rw [show 0 + ((k : Int) % 5).toNat * 1 = k % 5 by omega, ← List.map_set]
  refine tl_nil <| .block_normal <| .then_normal <| .s4 0 2 7 8 rfl rfl rfl rfl <| x_region <| tl_y rfl (y_addI rfl rfl (by omega)) <| mvI rfl <| tl_nil <| .loop_next (m' := 25 - (k + 1)) (by omega) (F' := [(0, _), (2, _), (7, _), (8, _)]) (cs4 rfl rfl rfl rfl) ?_
  exact ⟨k + 1, rfl, by omega, rfl, rfl, rfl, rfl⟩
 obtain rfl : k = 25 := by omega
 refine x_exit <| .then_exit <| .loop_exit <| .block_exit <| .then_normal <| zr <| mv0 rfl <| zq <| x_block ?_
 refine x_loop (I := fun m' F D M2 L1 => ∃ k : Nat, m' = 25 - k ∧ k ≤ 25 ∧ D = [] ∧ M = M2 ∧ L1 = (b1, .cells ((kCols a 25).map u64v).toArray 369 (0, 0)) :: kB b (kTheta (kCols a 25) a k) :: L ∧ F = [(0, .pointer (some ⟨b, 0, none⟩)), (2, .pointer (some ⟨b1, 0, none⟩)), (22, .int .i64 k)]) (25) (F0 := [(0, _), (2, _), (22, _)]) ?_ (cs3 rfl rfl rfl) ?_
 ·
  exact ⟨0, rfl, by omega, rfl, rfl, rfl, rfl⟩
 rintro m _ _ M2 L1 ⟨k, rfl, hk, rfl, rfl, rfl, rfl⟩
 refine zr <| tl_y rfl (y_lss rfl rfl) <| zq <| x_seq <| x_cond rfl (fun hc2 => ?_) (fun hc2 => ?_)
 ·
  refine x_skip <| .then_normal <| x_seq <| x_block <| zr <| mvI rfl <| asI rfl <| zq <| zr <| mvI rfl <| tl_y rfl (y_remI rfl rfl (by omega)) <| asI rfl <| zq <| .s5 0 2 5 6 22 rfl rfl rfl rfl rfl <| x_draw 20 hmix rfl ?_
  refine pmP 0 rfl rfl <| pmI 1 rfl rfl <| zp 2 rfl rfl (y_nilCheck rfl) <| zp 3 rfl rfl (y_indexArr rfl rfl (by omega)) <| zy 4 rfl rfl (y_load rfl rfl (.at_ (.ownAt (i := k) (c := (kTheta (kCols a 25) a k).map u64v) iI (get_u64' _ _ (by rw [kTheta_length]; omega))) (by omega))) <| pmI 5 rfl rfl <| zp 6 rfl rfl (y_addI rfl rfl (by omega)) ?_
  refine zp 7 rfl rfl (y_remI rfl rfl (by omega)) <| zp 8 rfl rfl (y_indexArr rfl rfl (by omega)) <| zy 9 rfl rfl (y_load rfl rfl (.at_ (.ownAt (i := (k % 5 + 4) % 5) (c := (kCols a 25).map u64v) iI (get_u64' _ _ (by rw [kCols_length]; omega))) (by omega))) <| pmI 10 rfl rfl <| zp 11 rfl rfl (y_addI rfl rfl (by omega)) <| zp 12 rfl rfl (y_remI rfl rfl (by omega)) <| zp 13 rfl rfl (y_indexArr rfl rfl (by omega)) ?_
  refine zy 14 rfl rfl (y_load rfl rfl (.at_ (.ownAt (i := (k % 5 + 1) % 5) (c := (kCols a 25).map u64v) iI (get_u64' _ _ (by rw [kCols_length]; omega))) (by omega))) <| zp 18 rfl rfl (y_nilCheck rfl) ?_
  refine ze 15 rfl rfl <| e_call' rfl (rotl64_spec _ 1 (by omega)) ?_
  rintro _ _ _ _ ⟨rfl, rfl, rfl⟩
  refine kp ?_
  refine zp 16 rfl rfl (y_xor64 rfl rfl) <| zp 17 rfl rfl (y_xor64 rfl rfl) <| zp 19 rfl rfl (y_indexArr rfl rfl (by omega)) <| zt 20 rfl rfl <| e_storeAt (c := (kTheta (kCols a 25) a k).map u64v) rfl rfl rfl iI (by rw [List.length_map, kTheta_length]; omega) iI ?_
  rw [show 0 + ((k : Int)).toNat * 1 = k by omega, ← List.map_set]
  refine zz <| .block_normal <| .then_normal <| .s3 0 2 22 rfl rfl rfl <| x_region <| tl_y rfl (y_addI rfl rfl (by omega)) <| mvI rfl <| tl_nil <| .loop_next (m' := 25 - (k + 1)) (by omega) (F' := [(0, _), (2, _), (22, _)]) (cs3 rfl rfl rfl) ?_
  exact ⟨k + 1, rfl, by omega, rfl, rfl, rfl, rfl⟩
 obtain rfl : k = 25 := by omega
 refine x_exit (.then_exit (.loop_exit (.block_exit (.dropTo (kB b (kTheta (kCols a 25) a 25) :: L) iI (end0 rfl lR ⟨rfl, rfl⟩)))))
structure KecG (M : Mem) : Prop where
 rc : ∃ c T fr, M 8 = some (.cells c T fr) ∧ ∀ j, j < 24 → c[j]? = some (u64v (kRc.getD j 0))
 turns : ∃ c T fr, M 7 = some (.cells c T fr) ∧ ∀ j, j < 25 → c[j]? = some (.int .i64 ((kTurns.getD j 0 : Nat) : Int))
theorem KecG.mono {M M' : Mem} (h : KecG M) (hle : Le M M') : KecG M' := ⟨let ⟨c, T, fr, a, b⟩ := h.rc; ⟨c, T, fr, hle _ _ a, b⟩, let ⟨c, T, fr, a, b⟩ := h.turns; ⟨c, T, fr, hle _ _ a, b⟩⟩
theorem rho_at (k : Nat) : 0 + ((k : Int) / 5 + 5 * ((2 * ((k : Int) % 5) + 3 * ((k : Int) / 5)) % 5)).toNat * 1 = k / 5 + 5 * ((2 * (k % 5) + 3 * (k / 5)) % 5) := by
 have : ((k : Int) / 5 + 5 * ((2 * ((k : Int) % 5) + 3 * ((k : Int) / 5)) % 5)) = ((k / 5 + 5 * ((2 * (k % 5) + 3 * (k / 5)) % 5) : Nat) : Int) := by simp
 rw [this, Int.toNat_natCast]; omega
theorem turns_lt : ∀ k : Fin 25, kTurns.getD k.val 0 < 64 := by decide +kernel
theorem Round_spec (hg : KecG M) {a : List UInt64} (hl : a.length = 25) (i : Nat) (hi : i < 24) :
  Con Tryz.prog 286 #[.agg (a.map u64v).toArray, .int .i64 (i : Int)] G M L (fun r M' L' => M = M' ∧ L = L' ∧ r = .agg ((kRound a (kRc.getD i 0)).map u64v).toArray) noPanic := by
 obtain ⟨rc, rct, rcf, hrc1, hrc2⟩ := hg.rc
 obtain ⟨tc, tt, tf, ht1, ht2⟩ := hg.turns
 have htl : (kThetaA a).length = 25 := by rw [kThetaA, kTheta_length, hl]
 refine zfn Tryz.func286 rfl 85 rfl <| zr <| tl_e rfl <| e_box rfl <| fun b1 => tl_e rfl <| e_alloc <| fun b2 => zq <| zr2 <| mvI rfl <| tl_y rfl (y_lss rfl rfl) <| mvB rfl <| tl_set (s := 15) (u := .bool false) rfl (by rw [decide_eq_false]; omega) <| mvI rfl <| tl_y rfl (y_geq rfl rfl) <| tPf rfl rfl <| zq <| .s4 1 2 4 18 rfl rfl rfl rfl <| x_false rfl (by rw [decide_eq_false]; omega) <| x_skip <| .then_normal <| zr <| zca rfl (Con.bring b1 iI (theta_spec hl)) ?_
 rintro _ _ _ _ ⟨rfl, rfl⟩
 refine zq <| zr <| tl_e rfl <| e_alloc <| fun b3 => zq <| zr2 <| tl_y rfl (y_loadAgg rfl rfl (.whole iI (by simp [htl]))) <| mv0 rfl <| zq <| x_block ?_
 refine x_loop (I := fun m' F D M2 L1 => ∃ k : Nat, m' = 25 - k ∧ k ≤ 25 ∧ D = [] ∧ M = M2 ∧ L1 = (b3, .cells ((kRho (kThetaA a) k).map u64v).toArray 357 (0, 0)) :: kB b1 (kThetaA a) :: kB b2 (List.replicate 25 0) :: L ∧ F = [(1, .int .i64 i), (2, .pointer (some ⟨b1, 0, none⟩)), (4, .pointer (some ⟨b2, 0, none⟩)), (5, .pointer (some ⟨b3, 0, none⟩)), (21, .agg ((kThetaA a).map u64v).toArray), (22, .int .i64 k)]) (25) (F0 := [(1, _), (2, _), (4, _), (5, _), (21, _), (22, _)]) ?_ (cs6 rfl rfl rfl rfl rfl rfl) ?_
 ·
  exact ⟨0, rfl, by omega, rfl, rfl, rfl, rfl⟩
 rintro m _ _ M2 L1 ⟨k, rfl, hk, rfl, rfl, rfl, rfl⟩
 refine zr <| tl_y rfl (y_lss rfl rfl) <| zq <| x_seq <| x_cond rfl (fun hc2 => ?_) (fun hc2 => ?_)
 ·
  refine x_skip <| .then_normal <| x_seq <| x_block <| zr <| mvI rfl <| tl_y rfl (y_index rfl rfl (by omega) rfl (by rw [List.getElem?_toArray]; show ((kThetaA a).map u64v)[(k : Int).toNat * 1]? = _; rw [show (k : Int).toNat * 1 = k by omega]; exact get_u64' _ _ (by rw [htl]; omega))) ?_
  refine asI rfl <| asI rfl <| zq <| zr <| mvI rfl <| tl_y rfl (y_remI rfl rfl (by omega)) <| mvI rfl <| tl_y rfl (y_quoI rfl rfl (by omega)) <| asI rfl <| asI rfl <| zq <| .sub (F' := [(1, _), (2, _), (4, _), (5, _), (6, _), (7, _), (8, _), (9, _), (21, _), (22, _)]) (cs10 rfl rfl rfl rfl rfl rfl rfl rfl rfl rfl) <| x_region <| mvI rfl <| mvI rfl <| tl_y rfl (y_mulI rfl rfl (by omega)) <| mvI rfl <| tl_y rfl (y_mulI rfl rfl (by omega)) <| tl_y rfl (y_addI rfl rfl (by omega)) <| tl_y rfl (y_remI rfl rfl (by omega)) <| tl_y rfl (y_mulI rfl rfl (by omega)) <| tl_y rfl (y_addI rfl rfl (by omega)) <| mvI rfl <| mvI rfl <| tl_y rfl (y_indexArr rfl rfl (by omega)) <| tl_y rfl (y_load rfl rfl (.at_ (.ro ht1 (ht2 k (by omega))) (by omega))) ?_
  refine zca rfl (rotl64_spec _ (kTurns.getD k 0) (turns_lt ⟨k, by omega⟩)) ?_
  rintro _ _ _ _ ⟨rfl, rfl, rfl⟩
  refine tl_y rfl (y_indexArr rfl rfl (by omega)) <| tl_e rfl <| e_storeAt (c := (kRho (kThetaA a) k).map u64v) rfl rfl rfl iI (by rw [List.length_map, kRho_length]; omega) iI ?_
  rw [rho_at, ← List.map_set]
  refine tl_nil <| .block_normal <| .then_normal <| .s6 1 2 4 5 21 22 rfl rfl rfl rfl rfl rfl <| x_region <| tl_y rfl (y_addI rfl rfl (by omega)) <| mvI rfl <| tl_nil <| .loop_next (m' := 25 - (k + 1)) (by omega) (F' := [(1, _), (2, _), (4, _), (5, _), (21, _), (22, _)]) (cs6 rfl rfl rfl rfl rfl rfl) ?_
  exact ⟨k + 1, rfl, by omega, rfl, rfl, rfl, rfl⟩
 obtain rfl : k = 25 := by omega
 refine x_exit <| .then_exit <| .loop_exit <| .block_exit <| .then_normal <| zr2 <| mv0 rfl <| zq <| x_block ?_
 refine x_loop (I := fun m' F D M2 L1 => ∃ k : Nat, m' = 25 - k ∧ k ≤ 25 ∧ D = [] ∧ M = M2 ∧ L1 = (b3, .cells ((kRho (kThetaA a) 25).map u64v).toArray 357 (0, 0)) :: kB b1 (kChi (kRho (kThetaA a) 25) (kThetaA a) k) :: kB b2 (List.replicate 25 0) :: L ∧ F = [(1, .int .i64 i), (2, .pointer (some ⟨b1, 0, none⟩)), (4, .pointer (some ⟨b2, 0, none⟩)), (5, .pointer (some ⟨b3, 0, none⟩)), (46, .int .i64 k)]) (25) (F0 := [(1, _), (2, _), (4, _), (5, _), (46, _)]) ?_ (cs5 rfl rfl rfl rfl rfl) ?_
 ·
  exact ⟨0, rfl, by omega, rfl, rfl, rfl, rfl⟩
 rintro m _ _ M2 L1 ⟨k, rfl, hk, rfl, rfl, rfl, rfl⟩
 refine zr <| tl_y rfl (y_lss rfl rfl) <| zq <| x_seq <| x_cond rfl (fun hc3 => ?_) (fun hc3 => ?_)
 ·
  refine x_skip <| .then_normal <| x_seq <| x_block <| zr <| mvI rfl <| asI rfl <| zq <| zr <| mvI rfl <| tl_y rfl (y_remI rfl rfl (by omega)) <| mvI rfl <| tl_y rfl (y_quoI rfl rfl (by omega)) <| tl_y rfl (y_mulI rfl rfl (by omega)) <| asI rfl <| asI rfl <| zq <| .s8 1 2 4 5 10 11 12 46 rfl rfl rfl rfl rfl rfl rfl rfl <| x_draw 22 hmix rfl ?_
  refine pmI 0 rfl rfl <| pmI 1 rfl rfl <| zp 2 rfl rfl (y_indexArr rfl rfl (by omega)) <| zy 3 rfl rfl (y_load rfl rfl (.at_ (.ownAt (i := k) (c := (kRho (kThetaA a) 25).map u64v) iI (get_u64' _ _ (by rw [kRho_length]; omega))) (by omega))) <| pmI 4 rfl rfl <| pmI 5 rfl rfl <| zp 6 rfl rfl (y_addI rfl rfl (by omega)) ?_
  refine zp 7 rfl rfl (y_remI rfl rfl (by omega)) <| zp 8 rfl rfl (y_addI rfl rfl (by omega)) <| zp 9 rfl rfl (y_indexArr rfl rfl (by omega)) <| zy 10 rfl rfl (y_load rfl rfl (.at_ (.ownAt (i := k / 5 * 5 + (k % 5 + 1) % 5) (c := (kRho (kThetaA a) 25).map u64v) iI (get_u64' _ _ (by rw [kRho_length]; omega))) (by omega))) <| zp 11 rfl rfl (y_com64 rfl) <| pmI 12 rfl rfl <| pmI 13 rfl rfl ?_
  refine zp 14 rfl rfl (y_addI rfl rfl (by omega)) <| zp 15 rfl rfl (y_remI rfl rfl (by omega)) <| zp 16 rfl rfl (y_addI rfl rfl (by omega)) <| zp 17 rfl rfl (y_indexArr rfl rfl (by omega)) <| zy 18 rfl rfl (y_load rfl rfl (.at_ (.ownAt (i := k / 5 * 5 + (k % 5 + 2) % 5) (c := (kRho (kThetaA a) 25).map u64v) iI (get_u64' _ _ (by rw [kRho_length]; omega))) (by omega))) <| zp 19 rfl rfl (y_and64 rfl rfl) <| zp 20 rfl rfl (y_xor64 rfl rfl) ?_
  refine zp 21 rfl rfl (y_indexArr rfl rfl (by omega)) <| zt 22 rfl rfl <| e_storeAt (c := (kChi (kRho (kThetaA a) 25) (kThetaA a) k).map u64v) rfl rfl rfl iI (by rw [List.length_map, kChi_length]; omega) iI ?_
  rw [show 0 + ((k : Int)).toNat * 1 = k by omega, ← List.map_set]
  refine zz <| .block_normal <| .then_normal <| .s5 1 2 4 5 46 rfl rfl rfl rfl rfl <| x_region <| tl_y rfl (y_addI rfl rfl (by omega)) <| mvI rfl <| tl_nil <| .loop_next (m' := 25 - (k + 1)) (by omega) (F' := [(1, _), (2, _), (4, _), (5, _), (46, _)]) (cs5 rfl rfl rfl rfl rfl) ?_
  exact ⟨k + 1, rfl, by omega, rfl, rfl, rfl, rfl⟩
 obtain rfl : k = 25 := by omega
 have hcl : (kChi (kRho (kThetaA a) 25) (kThetaA a) 25).length = 25 := by rw [kChi_length, htl]
 refine x_exit <| .then_exit <| .loop_exit <| .block_exit <| .then_normal <| x_seq <| x_draw 7 hmix rfl <| zp 0 rfl rfl (y_indexArrK 0 rfl rfl (by omega)) <| zy 1 rfl rfl (y_load rfl rfl (.at_ (.ownAt (i := 0) (c := (kChi (kRho (kThetaA a) 25) (kThetaA a) 25).map u64v) iI (get_u64' _ _ (by omega))) (by omega))) <| pmI 2 rfl rfl <| zp 3 rfl rfl (y_indexArr rfl rfl (by omega)) <| zy 4 rfl rfl (y_load rfl rfl (.at_ (.ro hrc1 (hrc2 i (by omega))) (by omega))) ?_
 refine zp 5 rfl rfl (y_xor64 rfl rfl) <| zp 6 rfl rfl (y_indexArrK 0 rfl rfl (by omega)) <| zt 7 rfl rfl <| e_storeAt (c := (kChi (kRho (kThetaA a) 25) (kThetaA a) 25).map u64v) rfl rfl rfl iI (by rw [List.length_map]; omega) iI ?_
 rw [← List.map_set]
 rw [show (kChi (kRho (kThetaA a) 25) (kThetaA a) 25).set 0 ((kChi (kRho (kThetaA a) 25) (kThetaA a) 25).getD 0 0 ^^^ kRc.getD i 0) = kRound a (kRc.getD i 0) from rfl]
 refine zz <| .then_normal <| .s2 2 4 rfl rfl <| zr <| tl_y rfl (y_loadAgg rfl rfl (.whole iI (by simp [kRound_length, hl]))) <| tl_e rfl <| e_store rfl rfl (by simp [kRound_length, hl]) (u64_one _) iI (.whole (by simp [kRound_length, hl])) iI <| zq <| x_ret (retRV (L' := L) (rv1 rfl (rc_cellAgg (by rfl) rfl (.whole iI (by simp [kRound_length, hl])))) iI lR ⟨rfl, rfl, rfl⟩)
theorem Permute_spec (hg : KecG M) {a : List UInt64} (hl : a.length = 25) :
  Con Tryz.prog 284 #[.agg (a.map u64v).toArray] G M L (fun r M' L' => M = M' ∧ L = L' ∧ r = .agg ((kPerm a 24).map u64v).toArray) noPanic := by
 refine zfn Tryz.func284 rfl 12 rfl <| zr <| tl_e rfl <| e_box rfl <| fun b1 => tl_e rfl <| e_alloc <| fun b2 => zq <| zr2 <| mv0 rfl <| zq <| x_block ?_
 refine x_loop (I := fun m' F D M2 L1 => ∃ k : Nat, m' = 24 - k ∧ k ≤ 24 ∧ D = [] ∧ M = M2 ∧ L1 = kB b2 (List.replicate 25 0) :: kB b1 (kPerm a k) :: L ∧ F = [(1, .pointer (some ⟨b1, 0, none⟩)), (2, .pointer (some ⟨b2, 0, none⟩)), (4, .int .i64 k)]) (24) (F0 := [(1, _), (2, _), (4, _)]) ?_ (cs3 rfl rfl rfl) ?_
 ·
  exact ⟨0, rfl, by omega, rfl, rfl, rfl, rfl⟩
 rintro m _ _ M2 L1 ⟨k, rfl, hk, rfl, rfl, rfl, rfl⟩
 refine zr <| tl_y rfl (y_lss rfl rfl) <| zq <| x_seq <| x_cond rfl (fun hc1 => ?_) (fun hc1 => ?_)
 ·
  refine x_skip <| .then_normal <| x_seq <| x_block <| zr <| mvI rfl <| asI rfl <| zq <| x_region <| tl_y rfl (y_loadAgg rfl rfl (.whole iI (by simp [kPerm_length, hl]))) <| mvI rfl <| zca rfl (Round_spec hg (show (kPerm a k).length = 25 by rw [kPerm_length, hl]) k (by omega)) ?_
  rintro _ _ _ _ ⟨rfl, rfl, rfl⟩
  refine tl_e rfl <| e_store rfl rfl (by simp [kRound_length, kPerm_length, hl]) (u64_one _) iI (.whole (by simp [kRound_length, kPerm_length, hl])) iI <| tl_nil <| .block_normal <| .then_normal <| .s3 1 2 4 rfl rfl rfl <| x_region <| tl_y rfl (y_addI rfl rfl (by omega)) <| mvI rfl <| tl_nil <| .loop_next (m' := 24 - (k + 1)) (by omega) (F' := [(1, _), (2, _), (4, _)]) (cs3 rfl rfl rfl) ?_
  exact ⟨k + 1, rfl, by omega, rfl, rfl, rfl, rfl⟩
 obtain rfl : k = 24 := by omega
 refine x_exit <| .then_exit <| .loop_exit <| .block_exit <| .then_normal <| zr <| tl_y rfl (y_loadAgg rfl rfl (.whole iI (by simp [kPerm_length, hl]))) <| tl_e rfl <| e_store rfl rfl (by simp [kPerm_length, hl]) (u64_one _) iI (.whole (by simp [kPerm_length, hl])) iI <| zq <| .s1 2 rfl <| x_ret (retRV (L' := L) (rv1 rfl (rc_cellAgg (by rfl) rfl (.whole iI (by simp [kPerm_length, hl])))) iI lR ⟨rfl, rfl, rfl⟩)
end
end Go.Proofs.YtplkoemjffplcaaGreatDoor
namespace Go.Eng
def putB (v : Nat) : Nat → List UInt8
 | 0 => []
 | n + 1 => putB (v / 256) n ++ [UInt8.ofNat (v % 256)]
theorem putB_length : ∀ (n v : Nat), (putB v n).length = n
 | 0, _ => rfl
 | n + 1, v => by simp [putB, putB_length n]
theorem putB_get : ∀ (n v i : Nat), i < n → (putB v n)[n - 1 - i]? = some (UInt8.ofNat (v / 256 ^ i % 256))
 | 0, _, _, h => by omega
 | n + 1, v, 0, _ => by
  have hl := putB_length n (v / 256)
  rw [putB, Nat.add_sub_cancel, Nat.sub_zero, List.getElem?_append_right (by omega), hl, Nat.sub_self]
  simp
 | n + 1, v, i + 1, h => by
  have hl := putB_length n (v / 256)
  rw [putB, show n + 1 - 1 - (i + 1) = n - 1 - i by omega, List.getElem?_append_left (by omega), putB_get n (v / 256) i (by omega), Nat.pow_succ, Nat.div_div_eq_div_mul, Nat.mul_comm 256]
def getB (bs : List UInt8) : Nat := bs.foldl (fun v b => v * 256 + b.toNat) 0
theorem getB_snoc (bs : List UInt8) (b : UInt8) : getB (bs ++ [b]) = getB bs * 256 + b.toNat := by simp [getB]
theorem snoc_ind {α : Type} {p : List α → Prop} (h0 : p []) (h1 : ∀ l a, p l → p (l ++ [a])) (l : List α) : p l := by
 rw [← List.reverse_reverse l]
 generalize l.reverse = r
 induction r with
 | nil => exact h0
 | cons a r ih => rw [List.reverse_cons]; exact h1 _ _ ih
theorem getB_lt (bs : List UInt8) : getB bs < 256 ^ bs.length := by
 refine snoc_ind (p := fun bs => getB bs < 256 ^ bs.length) (by simp [getB]) (fun l a ih => ?_) bs
 have := a.toNat_lt
 rw [getB_snoc, List.length_append, List.length_singleton, Nat.pow_succ]
 omega
theorem getB_put : ∀ (n v : Nat), getB (putB v n) = v % 256 ^ n
 | 0, v => by simp [getB, putB, Nat.mod_one]
 | n + 1, v => by
  rw [putB, getB_snoc, getB_put n, Nat.pow_succ, UInt8.toNat_ofNat']
  rw [Nat.mul_comm (256 ^ n) 256, Nat.mod_mul]
  omega
theorem put_get (bs : List UInt8) : putB (getB bs) bs.length = bs := by
 refine snoc_ind (p := fun bs => putB (getB bs) bs.length = bs) rfl (fun l a ih => ?_) bs
 have ha := a.toNat_lt
 rw [getB_snoc, List.length_append, List.length_singleton, putB]
 rw [show (getB l * 256 + a.toNat) / 256 = getB l by omega, show (getB l * 256 + a.toNat) % 256 = a.toNat by omega, ih]
 simp
theorem get_step (x : UInt64) (c : UInt8) (h : x.toNat < 72057594037927936) : (shl64 x 8 ||| c.toUInt64).toNat = x.toNat * 256 + c.toNat := by
 have hc := c.toNat_lt
 have h1 : (shl64 x 8).toNat = x.toNat * 256 := by rw [shl64, UInt64.toNat_ofNat']; omega
 rw [UInt64.toNat_or, h1, UInt8.toNat_toUInt64]
 have h2 := Nat.shiftLeft_add_eq_or_of_lt (a := x.toNat) (b := c.toNat) (i := 8) hc
 rw [Nat.shiftLeft_eq, show (2 : Nat) ^ 8 = 256 by rfl] at h2
 omega
theorem put_step (v n k : Nat) (h : k < n) : (List.replicate (n - k) (0 : UInt8) ++ (putB v n).drop (n - k)).set (n - 1 - k) (UInt8.ofNat (v / 256 ^ k % 256)) = List.replicate (n - (k + 1)) 0 ++ (putB v n).drop (n - (k + 1)) := by
 have hl := putB_length n v
 have hg := putB_get n v k h
 obtain ⟨d, rfl⟩ : ∃ d, n = k + 1 + d := ⟨n - (k + 1), by omega⟩
 rw [show k + 1 + d - k = d + 1 by omega, show k + 1 + d - 1 - k = d by omega, show k + 1 + d - (k + 1) = d by omega] at *
 have hd : (putB v (k + 1 + d)).drop d = UInt8.ofNat (v / 256 ^ k % 256) :: (putB v (k + 1 + d)).drop (d + 1) := by
  obtain ⟨hlt, he⟩ := List.getElem?_eq_some_iff.1 hg
  rw [List.drop_eq_getElem_cons hlt, he]
 rw [hd, List.replicate_succ', List.append_assoc, List.set_append_right _ _ (by simp)]
 simp
end Go.Eng
namespace Go.Proofs.YtplkoemjffplcaaGreatDoor
open Go Go.Eng
def sMix (s : List UInt64) (b : List UInt8) : Nat → List UInt64
 | 0 => s
 | k + 1 => updL (sMix s b k) (k / 8) (· ^^^ shl64 (b.getD k 0).toUInt64 (8 * (k % 8)))
theorem sMix_length (s : List UInt64) (b : List UInt8) (k : Nat) : (sMix s b k).length = s.length := by
 induction k with
 | zero => rfl
 | succ k ih => rw [sMix, updL_length, ih]
def sByte (s : List UInt64) (i : Nat) : UInt8 := (shr64 (s.getD (i / 8) 0) (8 * (i % 8))).toUInt8
def sGive (s : List UInt64) (n : Nat) : List UInt8 := (List.range n).map (sByte s)
theorem sGive_length (s : List UInt64) (n : Nat) : (sGive s n).length = n := by simp [sGive]
theorem sGive_succ (s : List UInt64) (n : Nat) : sGive s (n + 1) = sGive s n ++ [sByte s n] := by simp [sGive, List.range_succ]
def sPadZ (bs : List UInt8) : Nat := 135 - bs.length % 136
def sPad0 (bs : List UInt8) : List UInt8 := bs ++ 31 :: List.replicate (sPadZ bs) 0
def sPad (bs : List UInt8) : List UInt8 := (sPad0 bs).set (bs.length + sPadZ bs) ((sPad0 bs).getD (bs.length + sPadZ bs) 0 ^^^ 128)
theorem sPad0_length (bs : List UInt8) : (sPad0 bs).length = bs.length + 1 + sPadZ bs := by simp [sPad0]; omega
theorem sPad_blocks (bs : List UInt8) : bs.length + 1 + sPadZ bs = 136 * (bs.length / 136 + 1) := by unfold sPadZ; omega
def sAbs (t : List UInt8) : Nat → List UInt64
 | 0 => List.replicate 25 0
 | k + 1 => kPerm (sMix (sAbs t k) ((t.drop (136 * k)).take 136) 136) 24
theorem sAbs_length (t : List UInt8) (k : Nat) : (sAbs t k).length = 25 := by
 cases k with
 | zero => simp [sAbs]
 | succ k => rw [sAbs, kPerm_length, sMix_length]; exact sAbs_length t k
def shk0 (bs : List UInt8) : List UInt64 := sAbs (sPad bs) (bs.length / 136 + 1)
def shk (bs : List UInt8) (n : Nat) : List UInt8 := (sGive (shk0 bs) 136).take n
theorem shk_length (bs : List UInt8) {n : Nat} (h : n ≤ 136) : (shk bs n).length = n := by rw [shk, List.length_take, sGive_length]; omega
end Go.Proofs.YtplkoemjffplcaaGreatDoor
