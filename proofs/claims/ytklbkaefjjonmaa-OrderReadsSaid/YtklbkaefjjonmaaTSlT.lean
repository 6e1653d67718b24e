/-
  The table of the types of this translation, each row a closed fact (written by a program of mine).
-/
import Derived.Test.YtklbkaefjjonmaaChecked
import Derived.KernelRfl
import Derived.Test.YtklbkaefjjonmaaTSlH
namespace Go.Proofs.Ytklbkaefjjonmaa
open Go.Sl

def ti2 : Ti := ⟨.int .i64, 1, 8, .int .i64 0⟩
def ti3 : Ti := ⟨.int .i64, 1, 8, .int .i64 0⟩
def ti4 : Ti := ⟨.bool, 1, 1, .bool false⟩
def ti5 : Ti := ⟨.int .u8, 1, 1, .int .u8 0⟩
def ti6 : Ti := ⟨.int .u8, 1, 1, .int .u8 0⟩
def ti9 : Ti := ⟨.string, 1, 16, .string ByteArray.empty⟩
def ti10 : Ti := ⟨.string, 1, 16, .string ByteArray.empty⟩
def ti11 : Ti := ⟨.string, 1, 16, .string ByteArray.empty⟩
def ti12 : Ti := ⟨.int .u64, 1, 8, .int .u64 0⟩
def ti15 : Ti := ⟨.pointer 106, 1, 8, .pointer none⟩
def ti16 : Ti := ⟨.pointer 109, 1, 8, .pointer none⟩
def ti17 : Ti := ⟨.pointer 119, 1, 8, .pointer none⟩
def ti20 : Ti := ⟨.interface #[], 1, 16, .nilIface⟩
def ti21 : Ti := ⟨.int .i32, 1, 4, .int .i32 0⟩
def ti22 : Ti := ⟨.slice 5, 1, 24, .slice none 0 0⟩
def ti24 : Ti := ⟨.slice 27, 1, 24, .slice none 0 0⟩
def ti27 : Ti := ⟨.slice 3, 1, 24, .slice none 0 0⟩
def ti28 : Ti := ⟨.int .i64, 1, 8, .int .i64 0⟩
def ti29 : Ti := ⟨.struct #[⟨ "Seq", 27, 0, false, "", "", 0⟩, ⟨ "Stash", 27, 1, false, "", "", 24⟩, ⟨ "E", 28, 2, false, "", "", 48⟩], 3, 56, .agg #[.slice none 0 0, .slice none 0 0, .int .i64 0]⟩
def ti30 : Ti := ⟨.struct #[⟨ "Seq", 27, 0, false, "", "", 0⟩, ⟨ "Stash", 27, 1, false, "", "", 24⟩, ⟨ "E", 28, 2, false, "", "", 48⟩], 3, 56, .agg #[.slice none 0 0, .slice none 0 0, .int .i64 0]⟩
def ti33 : Ti := ⟨.slice 45, 1, 24, .slice none 0 0⟩
def ti34 : Ti := ⟨.array 2 5, 2, 2, .agg #[.int .u8 0, .int .u8 0]⟩
def ti35 : Ti := ⟨.int .i8, 1, 1, .int .i8 0⟩
def ti36 : Ti := ⟨.slice 55, 1, 24, .slice none 0 0⟩
def ti37 : Ti := ⟨.struct #[⟨ "Lifted", 4, 0, false, "", "", 0⟩, ⟨ "In", 3, 1, false, "", "", 8⟩, ⟨ "Out", 3, 2, false, "", "", 16⟩, ⟨ "Ops", 36, 3, false, "", "", 24⟩], 4, 48, .agg #[.bool false, .int .i64 0, .int .i64 0, .slice none 0 0]⟩
def ti38 : Ti := ⟨.struct #[⟨ "Lifted", 4, 0, false, "", "", 0⟩, ⟨ "In", 3, 1, false, "", "", 8⟩, ⟨ "Out", 3, 2, false, "", "", 16⟩, ⟨ "Ops", 36, 3, false, "", "", 24⟩], 4, 48, .agg #[.bool false, .int .i64 0, .int .i64 0, .slice none 0 0]⟩
def ti40 : Ti := ⟨.array 2 3, 2, 16, .agg #[.int .i64 0, .int .i64 0]⟩
def ti45 : Ti := ⟨.array 3 5, 3, 3, .agg #[.int .u8 0, .int .u8 0, .int .u8 0]⟩
def ti54 : Ti := ⟨.struct #[⟨ "Kind", 3, 0, false, "", "", 0⟩, ⟨ "From", 3, 1, false, "", "", 8⟩, ⟨ "Len", 3, 2, false, "", "", 16⟩, ⟨ "B", 5, 3, false, "", "", 24⟩, ⟨ "Data", 22, 4, false, "", "", 32⟩], 5, 56, .agg #[.int .i64 0, .int .i64 0, .int .i64 0, .int .u8 0, .slice none 0 0]⟩
def ti55 : Ti := ⟨.struct #[⟨ "Kind", 3, 0, false, "", "", 0⟩, ⟨ "From", 3, 1, false, "", "", 8⟩, ⟨ "Len", 3, 2, false, "", "", 16⟩, ⟨ "B", 5, 3, false, "", "", 24⟩, ⟨ "Data", 22, 4, false, "", "", 32⟩], 5, 56, .agg #[.int .i64 0, .int .i64 0, .int .i64 0, .int .u8 0, .slice none 0 0]⟩
def ti61 : Ti := ⟨.slice 66, 1, 24, .slice none 0 0⟩
def ti64 : Ti := ⟨.slice 4, 1, 24, .slice none 0 0⟩
def ti65 : Ti := ⟨.struct #[⟨ "Old", 4, 0, false, "", "", 0⟩, ⟨ "At", 3, 1, false, "", "", 8⟩, ⟨ "B", 5, 2, false, "", "", 16⟩], 3, 24, .agg #[.bool false, .int .i64 0, .int .u8 0]⟩
def ti66 : Ti := ⟨.struct #[⟨ "Old", 4, 0, false, "", "", 0⟩, ⟨ "At", 3, 1, false, "", "", 8⟩, ⟨ "B", 5, 2, false, "", "", 16⟩], 3, 24, .agg #[.bool false, .int .i64 0, .int .u8 0]⟩
def ti71 : Ti := ⟨.struct #[⟨ "L", 61, 0, false, "", "", 0⟩, ⟨ "In", 3, 1, false, "", "", 24⟩, ⟨ "Size", 3, 2, false, "", "", 32⟩], 3, 40, .agg #[.slice none 0 0, .int .i64 0, .int .i64 0]⟩
def ti72 : Ti := ⟨.struct #[⟨ "L", 61, 0, false, "", "", 0⟩, ⟨ "In", 3, 1, false, "", "", 24⟩, ⟨ "Size", 3, 2, false, "", "", 32⟩], 3, 40, .agg #[.slice none 0 0, .int .i64 0, .int .i64 0]⟩
def ti75 : Ti := ⟨.slice 77, 1, 24, .slice none 0 0⟩
def ti77 : Ti := ⟨.int .u64, 1, 8, .int .u64 0⟩
def ti83 : Ti := ⟨.interface #[("inlay/patch.cost", 110), ("inlay/patch.right", 89), ("inlay/patch.symbol", 86)], 1, 16, .nilIface⟩
def ti84 : Ti := ⟨.interface #[("inlay/patch.cost", 110), ("inlay/patch.right", 89), ("inlay/patch.symbol", 86)], 1, 16, .nilIface⟩
def ti87 : Ti := ⟨.int .u64, 1, 8, .int .u64 0⟩
def ti95 : Ti := ⟨.struct #[⟨ "Kind", 3, 0, false, "", "", 0⟩, ⟨ "From", 3, 1, false, "", "", 8⟩, ⟨ "Len", 3, 2, false, "", "", 16⟩, ⟨ "B", 5, 3, false, "", "", 24⟩, ⟨ "Data", 22, 4, false, "", "", 32⟩], 5, 56, .agg #[.int .i64 0, .int .i64 0, .int .i64 0, .int .u8 0, .slice none 0 0]⟩
def ti96 : Ti := ⟨.struct #[⟨ "Kind", 3, 0, false, "", "", 0⟩, ⟨ "From", 3, 1, false, "", "", 8⟩, ⟨ "Len", 3, 2, false, "", "", 16⟩, ⟨ "B", 5, 3, false, "", "", 24⟩, ⟨ "Data", 22, 4, false, "", "", 32⟩], 5, 56, .agg #[.int .i64 0, .int .i64 0, .int .i64 0, .int .u8 0, .slice none 0 0]⟩
def ti97 : Ti := ⟨.struct #[⟨ "Kind", 3, 0, false, "", "", 0⟩, ⟨ "From", 3, 1, false, "", "", 8⟩, ⟨ "Len", 3, 2, false, "", "", 16⟩, ⟨ "B", 5, 3, false, "", "", 24⟩, ⟨ "Data", 22, 4, false, "", "", 32⟩], 5, 56, .agg #[.int .i64 0, .int .i64 0, .int .i64 0, .int .u8 0, .slice none 0 0]⟩
def ti98 : Ti := ⟨.struct #[⟨ "Kind", 3, 0, false, "", "", 0⟩, ⟨ "From", 3, 1, false, "", "", 8⟩, ⟨ "Len", 3, 2, false, "", "", 16⟩, ⟨ "B", 5, 3, false, "", "", 24⟩, ⟨ "Data", 22, 4, false, "", "", 32⟩], 5, 56, .agg #[.int .i64 0, .int .i64 0, .int .i64 0, .int .u8 0, .slice none 0 0]⟩
def ti99 : Ti := ⟨.struct #[], 0, 0, .agg #[]⟩
def ti100 : Ti := ⟨.struct #[], 0, 0, .agg #[]⟩
def ti107 : Ti := ⟨.array 0 16, 0, 0, .agg #[]⟩
def ti111 : Ti := ⟨.int .u32, 1, 4, .int .u32 0⟩
def ti112 : Ti := ⟨.int .u8, 1, 1, .int .u8 0⟩
def ti113 : Ti := ⟨.int .u8, 1, 1, .int .u8 0⟩
def ti115 : Ti := ⟨.pointer 5, 1, 8, .pointer none⟩
def ti116 : Ti := ⟨.int .i32, 1, 4, .int .i32 0⟩
def ti117 : Ti := ⟨.int .i32, 1, 4, .int .i32 0⟩
def ti118 : Ti := ⟨.struct #[⟨ "Size_", 12, 0, false, "", "", 0⟩, ⟨ "PtrBytes", 12, 1, false, "", "", 8⟩, ⟨ "Hash", 111, 2, false, "", "", 16⟩, ⟨ "TFlag", 112, 3, false, "", "", 20⟩, ⟨ "Align_", 5, 4, false, "", "", 21⟩, ⟨ "FieldAlign_", 5, 5, false, "", "", 22⟩, ⟨ "Kind_", 113, 6, false, "", "", 23⟩, ⟨ "Equal", 114, 7, false, "", "", 24⟩, ⟨ "GCData", 115, 8, false, "", "", 32⟩, ⟨ "Str", 116, 9, false, "", "", 40⟩, ⟨ "PtrToThis", 117, 10, false, "", "", 44⟩], 11, 48, .agg #[.int .u64 0, .int .u64 0, .int .u32 0, .int .u8 0, .int .u8 0, .int .u8 0, .int .u8 0, .nilFunc, .pointer none, .int .i32 0, .int .i32 0]⟩
def ti119 : Ti := ⟨.struct #[⟨ "Size_", 12, 0, false, "", "", 0⟩, ⟨ "PtrBytes", 12, 1, false, "", "", 8⟩, ⟨ "Hash", 111, 2, false, "", "", 16⟩, ⟨ "TFlag", 112, 3, false, "", "", 20⟩, ⟨ "Align_", 5, 4, false, "", "", 21⟩, ⟨ "FieldAlign_", 5, 5, false, "", "", 22⟩, ⟨ "Kind_", 113, 6, false, "", "", 23⟩, ⟨ "Equal", 114, 7, false, "", "", 24⟩, ⟨ "GCData", 115, 8, false, "", "", 32⟩, ⟨ "Str", 116, 9, false, "", "", 40⟩, ⟨ "PtrToThis", 117, 10, false, "", "", 44⟩], 11, 48, .agg #[.int .u64 0, .int .u64 0, .int .u32 0, .int .u8 0, .int .u8 0, .int .u8 0, .int .u8 0, .nilFunc, .pointer none, .int .i32 0, .int .i32 0]⟩
theorem tiok2 : TiOk Try.prog 2 ti2 := ⟨by kernel_rfl, Try.t2, by kernel_rfl, by kernel_rfl, by kernel_rfl, by kernel_rfl⟩
theorem tiok3 : TiOk Try.prog 3 ti3 := ⟨by kernel_rfl, Try.t3, by kernel_rfl, by kernel_rfl, by kernel_rfl, by kernel_rfl⟩
theorem tiok4 : TiOk Try.prog 4 ti4 := ⟨by kernel_rfl, Try.t4, by kernel_rfl, by kernel_rfl, by kernel_rfl, by kernel_rfl⟩
theorem tiok5 : TiOk Try.prog 5 ti5 := ⟨by kernel_rfl, Try.t5, by kernel_rfl, by kernel_rfl, by kernel_rfl, by kernel_rfl⟩
theorem tiok6 : TiOk Try.prog 6 ti6 := ⟨by kernel_rfl, Try.t6, by kernel_rfl, by kernel_rfl, by kernel_rfl, by kernel_rfl⟩
theorem tiok9 : TiOk Try.prog 9 ti9 := ⟨by kernel_rfl, Try.t9, by kernel_rfl, by kernel_rfl, by kernel_rfl, by kernel_rfl⟩
theorem tiok10 : TiOk Try.prog 10 ti10 := ⟨by kernel_rfl, Try.t10, by kernel_rfl, by kernel_rfl, by kernel_rfl, by kernel_rfl⟩
theorem tiok11 : TiOk Try.prog 11 ti11 := ⟨by kernel_rfl, Try.t11, by kernel_rfl, by kernel_rfl, by kernel_rfl, by kernel_rfl⟩
theorem tiok12 : TiOk Try.prog 12 ti12 := ⟨by kernel_rfl, Try.t12, by kernel_rfl, by kernel_rfl, by kernel_rfl, by kernel_rfl⟩
theorem tiok15 : TiOk Try.prog 15 ti15 := ⟨by kernel_rfl, Try.t15, by kernel_rfl, by kernel_rfl, by kernel_rfl, by kernel_rfl⟩
theorem tiok16 : TiOk Try.prog 16 ti16 := ⟨by kernel_rfl, Try.t16, by kernel_rfl, by kernel_rfl, by kernel_rfl, by kernel_rfl⟩
theorem tiok17 : TiOk Try.prog 17 ti17 := ⟨by kernel_rfl, Try.t17, by kernel_rfl, by kernel_rfl, by kernel_rfl, by kernel_rfl⟩
theorem tiok20 : TiOk Try.prog 20 ti20 := ⟨by kernel_rfl, Try.t20, by kernel_rfl, by kernel_rfl, by kernel_rfl, by kernel_rfl⟩
theorem tiok21 : TiOk Try.prog 21 ti21 := ⟨by kernel_rfl, Try.t21, by kernel_rfl, by kernel_rfl, by kernel_rfl, by kernel_rfl⟩
theorem tiok22 : TiOk Try.prog 22 ti22 := ⟨by kernel_rfl, Try.t22, by kernel_rfl, by kernel_rfl, by kernel_rfl, by kernel_rfl⟩
theorem tiok24 : TiOk Try.prog 24 ti24 := ⟨by kernel_rfl, Try.t24, by kernel_rfl, by kernel_rfl, by kernel_rfl, by kernel_rfl⟩
theorem tiok27 : TiOk Try.prog 27 ti27 := ⟨by kernel_rfl, Try.t27, by kernel_rfl, by kernel_rfl, by kernel_rfl, by kernel_rfl⟩
theorem tiok28 : TiOk Try.prog 28 ti28 := ⟨by kernel_rfl, Try.t28, by kernel_rfl, by kernel_rfl, by kernel_rfl, by kernel_rfl⟩
theorem tiok29 : TiOk Try.prog 29 ti29 := ⟨by kernel_rfl, Try.t29, by kernel_rfl, by kernel_rfl, by kernel_rfl, by kernel_rfl⟩
theorem tiok30 : TiOk Try.prog 30 ti30 := ⟨by kernel_rfl, Try.t30, by kernel_rfl, by kernel_rfl, by kernel_rfl, by kernel_rfl⟩
theorem tiok33 : TiOk Try.prog 33 ti33 := ⟨by kernel_rfl, Try.t33, by kernel_rfl, by kernel_rfl, by kernel_rfl, by kernel_rfl⟩
theorem tiok34 : TiOk Try.prog 34 ti34 := ⟨by kernel_rfl, Try.t34, by kernel_rfl, by kernel_rfl, by kernel_rfl, by kernel_rfl⟩
theorem tiok35 : TiOk Try.prog 35 ti35 := ⟨by kernel_rfl, Try.t35, by kernel_rfl, by kernel_rfl, by kernel_rfl, by kernel_rfl⟩
theorem tiok36 : TiOk Try.prog 36 ti36 := ⟨by kernel_rfl, Try.t36, by kernel_rfl, by kernel_rfl, by kernel_rfl, by kernel_rfl⟩
theorem tiok37 : TiOk Try.prog 37 ti37 := ⟨by kernel_rfl, Try.t37, by kernel_rfl, by kernel_rfl, by kernel_rfl, by kernel_rfl⟩
theorem tiok38 : TiOk Try.prog 38 ti38 := ⟨by kernel_rfl, Try.t38, by kernel_rfl, by kernel_rfl, by kernel_rfl, by kernel_rfl⟩
theorem tiok40 : TiOk Try.prog 40 ti40 := ⟨by kernel_rfl, Try.t40, by kernel_rfl, by kernel_rfl, by kernel_rfl, by kernel_rfl⟩
theorem tiok45 : TiOk Try.prog 45 ti45 := ⟨by kernel_rfl, Try.t45, by kernel_rfl, by kernel_rfl, by kernel_rfl, by kernel_rfl⟩
theorem tiok54 : TiOk Try.prog 54 ti54 := ⟨by kernel_rfl, Try.t54, by kernel_rfl, by kernel_rfl, by kernel_rfl, by kernel_rfl⟩
theorem tiok55 : TiOk Try.prog 55 ti55 := ⟨by kernel_rfl, Try.t55, by kernel_rfl, by kernel_rfl, by kernel_rfl, by kernel_rfl⟩
theorem tiok61 : TiOk Try.prog 61 ti61 := ⟨by kernel_rfl, Try.t61, by kernel_rfl, by kernel_rfl, by kernel_rfl, by kernel_rfl⟩
theorem tiok64 : TiOk Try.prog 64 ti64 := ⟨by kernel_rfl, Try.t64, by kernel_rfl, by kernel_rfl, by kernel_rfl, by kernel_rfl⟩
theorem tiok65 : TiOk Try.prog 65 ti65 := ⟨by kernel_rfl, Try.t65, by kernel_rfl, by kernel_rfl, by kernel_rfl, by kernel_rfl⟩
theorem tiok66 : TiOk Try.prog 66 ti66 := ⟨by kernel_rfl, Try.t66, by kernel_rfl, by kernel_rfl, by kernel_rfl, by kernel_rfl⟩
theorem tiok71 : TiOk Try.prog 71 ti71 := ⟨by kernel_rfl, Try.t71, by kernel_rfl, by kernel_rfl, by kernel_rfl, by kernel_rfl⟩
theorem tiok72 : TiOk Try.prog 72 ti72 := ⟨by kernel_rfl, Try.t72, by kernel_rfl, by kernel_rfl, by kernel_rfl, by kernel_rfl⟩
theorem tiok75 : TiOk Try.prog 75 ti75 := ⟨by kernel_rfl, Try.t75, by kernel_rfl, by kernel_rfl, by kernel_rfl, by kernel_rfl⟩
theorem tiok77 : TiOk Try.prog 77 ti77 := ⟨by kernel_rfl, Try.t77, by kernel_rfl, by kernel_rfl, by kernel_rfl, by kernel_rfl⟩
theorem tiok83 : TiOk Try.prog 83 ti83 := ⟨by kernel_rfl, Try.t83, by kernel_rfl, by kernel_rfl, by kernel_rfl, by kernel_rfl⟩
theorem tiok84 : TiOk Try.prog 84 ti84 := ⟨by kernel_rfl, Try.t84, by kernel_rfl, by kernel_rfl, by kernel_rfl, by kernel_rfl⟩
theorem tiok87 : TiOk Try.prog 87 ti87 := ⟨by kernel_rfl, Try.t87, by kernel_rfl, by kernel_rfl, by kernel_rfl, by kernel_rfl⟩
theorem tiok95 : TiOk Try.prog 95 ti95 := ⟨by kernel_rfl, Try.t95, by kernel_rfl, by kernel_rfl, by kernel_rfl, by kernel_rfl⟩
theorem tiok96 : TiOk Try.prog 96 ti96 := ⟨by kernel_rfl, Try.t96, by kernel_rfl, by kernel_rfl, by kernel_rfl, by kernel_rfl⟩
theorem tiok97 : TiOk Try.prog 97 ti97 := ⟨by kernel_rfl, Try.t97, by kernel_rfl, by kernel_rfl, by kernel_rfl, by kernel_rfl⟩
theorem tiok98 : TiOk Try.prog 98 ti98 := ⟨by kernel_rfl, Try.t98, by kernel_rfl, by kernel_rfl, by kernel_rfl, by kernel_rfl⟩
theorem tiok99 : TiOk Try.prog 99 ti99 := ⟨by kernel_rfl, Try.t99, by kernel_rfl, by kernel_rfl, by kernel_rfl, by kernel_rfl⟩
theorem tiok100 : TiOk Try.prog 100 ti100 := ⟨by kernel_rfl, Try.t100, by kernel_rfl, by kernel_rfl, by kernel_rfl, by kernel_rfl⟩
theorem tiok107 : TiOk Try.prog 107 ti107 := ⟨by kernel_rfl, Try.t107, by kernel_rfl, by kernel_rfl, by kernel_rfl, by kernel_rfl⟩
theorem tiok111 : TiOk Try.prog 111 ti111 := ⟨by kernel_rfl, Try.t111, by kernel_rfl, by kernel_rfl, by kernel_rfl, by kernel_rfl⟩
theorem tiok112 : TiOk Try.prog 112 ti112 := ⟨by kernel_rfl, Try.t112, by kernel_rfl, by kernel_rfl, by kernel_rfl, by kernel_rfl⟩
theorem tiok113 : TiOk Try.prog 113 ti113 := ⟨by kernel_rfl, Try.t113, by kernel_rfl, by kernel_rfl, by kernel_rfl, by kernel_rfl⟩
theorem tiok115 : TiOk Try.prog 115 ti115 := ⟨by kernel_rfl, Try.t115, by kernel_rfl, by kernel_rfl, by kernel_rfl, by kernel_rfl⟩
theorem tiok116 : TiOk Try.prog 116 ti116 := ⟨by kernel_rfl, Try.t116, by kernel_rfl, by kernel_rfl, by kernel_rfl, by kernel_rfl⟩
theorem tiok117 : TiOk Try.prog 117 ti117 := ⟨by kernel_rfl, Try.t117, by kernel_rfl, by kernel_rfl, by kernel_rfl, by kernel_rfl⟩
theorem tiok118 : TiOk Try.prog 118 ti118 := ⟨by kernel_rfl, Try.t118, by kernel_rfl, by kernel_rfl, by kernel_rfl, by kernel_rfl⟩
theorem tiok119 : TiOk Try.prog 119 ti119 := ⟨by kernel_rfl, Try.t119, by kernel_rfl, by kernel_rfl, by kernel_rfl, by kernel_rfl⟩
def tab : List (Nat × Ti) := [(2, ti2), (3, ti3), (4, ti4), (5, ti5), (6, ti6), (9, ti9), (10, ti10), (11, ti11), (12, ti12), (15, ti15), (16, ti16), (17, ti17), (20, ti20), (21, ti21), (22, ti22), (24, ti24), (27, ti27), (28, ti28), (29, ti29), (30, ti30), (33, ti33), (34, ti34), (35, ti35), (36, ti36), (37, ti37), (38, ti38), (40, ti40), (45, ti45), (54, ti54), (55, ti55), (61, ti61), (64, ti64), (65, ti65), (66, ti66), (71, ti71), (72, ti72), (75, ti75), (77, ti77), (83, ti83), (84, ti84), (87, ti87), (95, ti95), (96, ti96), (97, ti97), (98, ti98), (99, ti99), (100, ti100), (107, ti107), (111, ti111), (112, ti112), (113, ti113), (115, ti115), (116, ti116), (117, ti117), (118, ti118), (119, ti119)]
theorem tab_ok : ∀ t i, tlook t tab = some i → TiOk Try.prog t i := by
  refine tab_ok_cons tiok2 ?_
  refine tab_ok_cons tiok3 ?_
  refine tab_ok_cons tiok4 ?_
  refine tab_ok_cons tiok5 ?_
  refine tab_ok_cons tiok6 ?_
  refine tab_ok_cons tiok9 ?_
  refine tab_ok_cons tiok10 ?_
  refine tab_ok_cons tiok11 ?_
  refine tab_ok_cons tiok12 ?_
  refine tab_ok_cons tiok15 ?_
  refine tab_ok_cons tiok16 ?_
  refine tab_ok_cons tiok17 ?_
  refine tab_ok_cons tiok20 ?_
  refine tab_ok_cons tiok21 ?_
  refine tab_ok_cons tiok22 ?_
  refine tab_ok_cons tiok24 ?_
  refine tab_ok_cons tiok27 ?_
  refine tab_ok_cons tiok28 ?_
  refine tab_ok_cons tiok29 ?_
  refine tab_ok_cons tiok30 ?_
  refine tab_ok_cons tiok33 ?_
  refine tab_ok_cons tiok34 ?_
  refine tab_ok_cons tiok35 ?_
  refine tab_ok_cons tiok36 ?_
  refine tab_ok_cons tiok37 ?_
  refine tab_ok_cons tiok38 ?_
  refine tab_ok_cons tiok40 ?_
  refine tab_ok_cons tiok45 ?_
  refine tab_ok_cons tiok54 ?_
  refine tab_ok_cons tiok55 ?_
  refine tab_ok_cons tiok61 ?_
  refine tab_ok_cons tiok64 ?_
  refine tab_ok_cons tiok65 ?_
  refine tab_ok_cons tiok66 ?_
  refine tab_ok_cons tiok71 ?_
  refine tab_ok_cons tiok72 ?_
  refine tab_ok_cons tiok75 ?_
  refine tab_ok_cons tiok77 ?_
  refine tab_ok_cons tiok83 ?_
  refine tab_ok_cons tiok84 ?_
  refine tab_ok_cons tiok87 ?_
  refine tab_ok_cons tiok95 ?_
  refine tab_ok_cons tiok96 ?_
  refine tab_ok_cons tiok97 ?_
  refine tab_ok_cons tiok98 ?_
  refine tab_ok_cons tiok99 ?_
  refine tab_ok_cons tiok100 ?_
  refine tab_ok_cons tiok107 ?_
  refine tab_ok_cons tiok111 ?_
  refine tab_ok_cons tiok112 ?_
  refine tab_ok_cons tiok113 ?_
  refine tab_ok_cons tiok115 ?_
  refine tab_ok_cons tiok116 ?_
  refine tab_ok_cons tiok117 ?_
  refine tab_ok_cons tiok118 ?_
  refine tab_ok_cons tiok119 ?_
  exact tab_ok_nil
noncomputable def X : Cx := ⟨Try.prog, tab, tab_ok, by kernel_rfl⟩
end Go.Proofs.Ytklbkaefjjonmaa
