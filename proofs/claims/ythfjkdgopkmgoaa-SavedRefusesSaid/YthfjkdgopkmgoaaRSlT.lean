/-
  The table of the types of this translation, each row a closed fact (written by a program of mine).
-/
import Derived.Test.YthfjkdgopkmgoaaChecked
import Derived.KernelRfl
import Derived.Test.YthfjkdgopkmgoaaRSlH
namespace Go.Proofs.Ythfjkdgopkmgoaa
open Go.Sl

def ti2 : Ti := ⟨.int .i64, 1, 8, .int .i64 0⟩
def ti3 : Ti := ⟨.int .i64, 1, 8, .int .i64 0⟩
def ti4 : Ti := ⟨.bool, 1, 1, .bool false⟩
def ti5 : Ti := ⟨.int .u8, 1, 1, .int .u8 0⟩
def ti6 : Ti := ⟨.int .u8, 1, 1, .int .u8 0⟩
def ti9 : Ti := ⟨.string, 1, 16, .string ByteArray.empty⟩
def ti10 : Ti := ⟨.string, 1, 16, .string ByteArray.empty⟩
def ti11 : Ti := ⟨.string, 1, 16, .string ByteArray.empty⟩
def ti12 : Ti := ⟨.int .u64, 1, 8, .int .u64 0⟩
def ti15 : Ti := ⟨.pointer 152, 1, 8, .pointer none⟩
def ti16 : Ti := ⟨.pointer 155, 1, 8, .pointer none⟩
def ti17 : Ti := ⟨.pointer 163, 1, 8, .pointer none⟩
def ti20 : Ti := ⟨.interface #[], 1, 16, .nilIface⟩
def ti21 : Ti := ⟨.int .i32, 1, 4, .int .i32 0⟩
def ti22 : Ti := ⟨.struct #[⟨ "Size", 5, 0, false, "", "", 0⟩, ⟨ "Undo", 5, 1, false, "", "", 1⟩], 2, 2, .agg #[.int .u8 0, .int .u8 0]⟩
def ti23 : Ti := ⟨.struct #[⟨ "Size", 5, 0, false, "", "", 0⟩, ⟨ "Undo", 5, 1, false, "", "", 1⟩], 2, 2, .agg #[.int .u8 0, .int .u8 0]⟩
def ti24 : Ti := ⟨.slice 5, 1, 24, .slice none 0 0⟩
def ti25 : Ti := ⟨.int .i8, 1, 1, .int .i8 0⟩
def ti26 : Ti := ⟨.array 4 25, 4, 4, .agg #[.int .i8 0, .int .i8 0, .int .i8 0, .int .i8 0]⟩
def ti28 : Ti := ⟨.slice 24, 1, 24, .slice none 0 0⟩
def ti29 : Ti := ⟨.slice 3, 1, 24, .slice none 0 0⟩
def ti30 : Ti := ⟨.slice 4, 1, 24, .slice none 0 0⟩
def ti31 : Ti := ⟨.struct #[⟨ "Size", 3, 0, false, "", "", 0⟩, ⟨ "Data", 28, 1, false, "", "", 8⟩, ⟨ "Wear", 29, 2, false, "", "", 32⟩, ⟨ "Limit", 3, 3, false, "", "", 56⟩, ⟨ "Dead", 30, 4, false, "", "", 64⟩], 5, 88, .agg #[.int .i64 0, .slice none 0 0, .slice none 0 0, .int .i64 0, .slice none 0 0]⟩
def ti32 : Ti := ⟨.struct #[⟨ "Size", 3, 0, false, "", "", 0⟩, ⟨ "Data", 28, 1, false, "", "", 8⟩, ⟨ "Wear", 29, 2, false, "", "", 32⟩, ⟨ "Limit", 3, 3, false, "", "", 56⟩, ⟨ "Dead", 30, 4, false, "", "", 64⟩], 5, 88, .agg #[.int .i64 0, .slice none 0 0, .slice none 0 0, .int .i64 0, .slice none 0 0]⟩
def ti33 : Ti := ⟨.array 2 3, 2, 16, .agg #[.int .i64 0, .int .i64 0]⟩
def ti34 : Ti := ⟨.struct #[⟨ "Sectors", 3, 0, false, "", "", 0⟩, ⟨ "Journal", 33, 1, false, "", "", 8⟩, ⟨ "Settings", 33, 3, false, "", "", 24⟩, ⟨ "Stage", 29, 5, false, "", "", 40⟩, ⟨ "Undo", 29, 6, false, "", "", 64⟩, ⟨ "Stash", 29, 7, false, "", "", 88⟩], 8, 112, .agg #[.int .i64 0, .int .i64 0, .int .i64 0, .int .i64 0, .int .i64 0, .slice none 0 0, .slice none 0 0, .slice none 0 0]⟩
def ti35 : Ti := ⟨.struct #[⟨ "Sectors", 3, 0, false, "", "", 0⟩, ⟨ "Journal", 33, 1, false, "", "", 8⟩, ⟨ "Settings", 33, 3, false, "", "", 24⟩, ⟨ "Stage", 29, 5, false, "", "", 40⟩, ⟨ "Undo", 29, 6, false, "", "", 64⟩, ⟨ "Stash", 29, 7, false, "", "", 88⟩], 8, 112, .agg #[.int .i64 0, .int .i64 0, .int .i64 0, .int .i64 0, .int .i64 0, .slice none 0 0, .slice none 0 0, .slice none 0 0]⟩
def ti38 : Ti := ⟨.struct #[⟨ "Sector", 3, 0, false, "", "", 0⟩, ⟨ "Old", 24, 1, false, "", "", 8⟩, ⟨ "New", 24, 2, false, "", "", 32⟩], 3, 56, .agg #[.int .i64 0, .slice none 0 0, .slice none 0 0]⟩
def ti39 : Ti := ⟨.struct #[⟨ "Sector", 3, 0, false, "", "", 0⟩, ⟨ "Old", 24, 1, false, "", "", 8⟩, ⟨ "New", 24, 2, false, "", "", 32⟩], 3, 56, .agg #[.int .i64 0, .slice none 0 0, .slice none 0 0]⟩
def ti41 : Ti := ⟨.array 2 5, 2, 2, .agg #[.int .u8 0, .int .u8 0]⟩
def ti42 : Ti := ⟨.slice 41, 1, 24, .slice none 0 0⟩
def ti43 : Ti := ⟨.int .i64, 1, 8, .int .i64 0⟩
def ti47 : Ti := ⟨.struct #[⟨ "At", 3, 0, false, "", "", 0⟩, ⟨ "B", 24, 1, false, "", "", 8⟩], 2, 32, .agg #[.int .i64 0, .slice none 0 0]⟩
def ti48 : Ti := ⟨.struct #[⟨ "At", 3, 0, false, "", "", 0⟩, ⟨ "B", 24, 1, false, "", "", 8⟩], 2, 32, .agg #[.int .i64 0, .slice none 0 0]⟩
def ti52 : Ti := ⟨.struct #[⟨ "Kind", 3, 0, false, "", "", 0⟩, ⟨ "Sector", 3, 1, false, "", "", 8⟩, ⟨ "At", 3, 2, false, "", "", 16⟩, ⟨ "Data", 24, 3, false, "", "", 24⟩], 4, 48, .agg #[.int .i64 0, .int .i64 0, .int .i64 0, .slice none 0 0]⟩
def ti53 : Ti := ⟨.struct #[⟨ "Kind", 3, 0, false, "", "", 0⟩, ⟨ "Sector", 3, 1, false, "", "", 8⟩, ⟨ "At", 3, 2, false, "", "", 16⟩, ⟨ "Data", 24, 3, false, "", "", 24⟩], 4, 48, .agg #[.int .i64 0, .int .i64 0, .int .i64 0, .slice none 0 0]⟩
def ti54 : Ti := ⟨.struct #[⟨ "X", 53, 0, false, "", "", 0⟩, ⟨ "Done", 4, 4, false, "", "", 48⟩, ⟨ "E", 43, 5, false, "", "", 56⟩], 6, 64, .agg #[.int .i64 0, .int .i64 0, .int .i64 0, .slice none 0 0, .bool false, .int .i64 0]⟩
def ti55 : Ti := ⟨.struct #[⟨ "X", 53, 0, false, "", "", 0⟩, ⟨ "Done", 4, 4, false, "", "", 48⟩, ⟨ "E", 43, 5, false, "", "", 56⟩], 6, 64, .agg #[.int .i64 0, .int .i64 0, .int .i64 0, .slice none 0 0, .bool false, .int .i64 0]⟩
def ti58 : Ti := ⟨.struct #[⟨ "B", 24, 0, false, "", "", 0⟩, ⟨ "At", 3, 1, false, "", "", 24⟩, ⟨ "E", 43, 2, false, "", "", 32⟩], 3, 40, .agg #[.slice none 0 0, .int .i64 0, .int .i64 0]⟩
def ti59 : Ti := ⟨.struct #[⟨ "B", 24, 0, false, "", "", 0⟩, ⟨ "At", 3, 1, false, "", "", 24⟩, ⟨ "E", 43, 2, false, "", "", 32⟩], 3, 40, .agg #[.slice none 0 0, .int .i64 0, .int .i64 0]⟩
def ti64 : Ti := ⟨.slice 102, 1, 24, .slice none 0 0⟩
def ti67 : Ti := ⟨.slice 42, 1, 24, .slice none 0 0⟩
def ti70 : Ti := ⟨.array 4 5, 4, 4, .agg #[.int .u8 0, .int .u8 0, .int .u8 0, .int .u8 0]⟩
def ti71 : Ti := ⟨.array 3 24, 3, 72, .agg #[.slice none 0 0, .slice none 0 0, .slice none 0 0]⟩
def ti74 : Ti := ⟨.struct #[⟨ "Size", 5, 0, false, "", "", 0⟩, ⟨ "Data", 28, 1, false, "", "", 8⟩, ⟨ "Wear", 24, 2, false, "", "", 32⟩, ⟨ "Dead", 5, 3, false, "", "", 56⟩], 4, 64, .agg #[.int .u8 0, .slice none 0 0, .slice none 0 0, .int .u8 0]⟩
def ti75 : Ti := ⟨.struct #[⟨ "Size", 5, 0, false, "", "", 0⟩, ⟨ "Data", 28, 1, false, "", "", 8⟩, ⟨ "Wear", 24, 2, false, "", "", 32⟩, ⟨ "Dead", 5, 3, false, "", "", 56⟩], 4, 64, .agg #[.int .u8 0, .slice none 0 0, .slice none 0 0, .int .u8 0]⟩
def ti76 : Ti := ⟨.array 2 24, 2, 48, .agg #[.slice none 0 0, .slice none 0 0]⟩
def ti85 : Ti := ⟨.array 3 21, 3, 12, .agg #[.int .i32 0, .int .i32 0, .int .i32 0]⟩
def ti89 : Ti := ⟨.struct #[⟨ "Erase", 4, 0, false, "", "", 0⟩, ⟨ "Sector", 5, 1, false, "", "", 1⟩, ⟨ "At", 5, 2, false, "", "", 2⟩, ⟨ "Data", 24, 3, false, "", "", 8⟩, ⟨ "Torn", 4, 4, false, "", "", 32⟩, ⟨ "Mask", 24, 5, false, "", "", 40⟩], 6, 64, .agg #[.bool false, .int .u8 0, .int .u8 0, .slice none 0 0, .bool false, .slice none 0 0]⟩
def ti90 : Ti := ⟨.struct #[⟨ "Erase", 4, 0, false, "", "", 0⟩, ⟨ "Sector", 5, 1, false, "", "", 1⟩, ⟨ "At", 5, 2, false, "", "", 2⟩, ⟨ "Data", 24, 3, false, "", "", 8⟩, ⟨ "Torn", 4, 4, false, "", "", 32⟩, ⟨ "Mask", 24, 5, false, "", "", 40⟩], 6, 64, .agg #[.bool false, .int .u8 0, .int .u8 0, .slice none 0 0, .bool false, .slice none 0 0]⟩
def ti95 : Ti := ⟨.slice 90, 1, 24, .slice none 0 0⟩
def ti97 : Ti := ⟨.int .u16, 1, 2, .int .u16 0⟩
def ti101 : Ti := ⟨.struct #[⟨ "From", 3, 0, false, "", "", 0⟩, ⟨ "To", 3, 1, false, "", "", 8⟩], 2, 16, .agg #[.int .i64 0, .int .i64 0]⟩
def ti102 : Ti := ⟨.struct #[⟨ "From", 3, 0, false, "", "", 0⟩, ⟨ "To", 3, 1, false, "", "", 8⟩], 2, 16, .agg #[.int .i64 0, .int .i64 0]⟩
def ti123 : Ti := ⟨.int .u64, 1, 8, .int .u64 0⟩
def ti124 : Ti := ⟨.struct #[], 0, 0, .agg #[]⟩
def ti125 : Ti := ⟨.struct #[], 0, 0, .agg #[]⟩
def ti126 : Ti := ⟨.pointer 130, 1, 8, .pointer none⟩
def ti127 : Ti := ⟨.struct #[⟨ "b", 24, 0, false, "", "inlay/saved", 0⟩], 1, 24, .agg #[.slice none 0 0]⟩
def ti128 : Ti := ⟨.struct #[⟨ "b", 24, 0, false, "", "inlay/saved", 0⟩], 1, 24, .agg #[.slice none 0 0]⟩
def ti129 : Ti := ⟨.struct #[⟨ "rest", 128, 0, true, "", "inlay/saved", 0⟩, ⟨ "last", 3, 1, false, "", "inlay/saved", 24⟩, ⟨ "size", 3, 2, false, "", "inlay/saved", 32⟩], 3, 40, .agg #[.slice none 0 0, .int .i64 0, .int .i64 0]⟩
def ti130 : Ti := ⟨.struct #[⟨ "rest", 128, 0, true, "", "inlay/saved", 0⟩, ⟨ "last", 3, 1, false, "", "inlay/saved", 24⟩, ⟨ "size", 3, 2, false, "", "inlay/saved", 32⟩], 3, 40, .agg #[.slice none 0 0, .int .i64 0, .int .i64 0]⟩
def ti134 : Ti := ⟨.pointer 53, 1, 8, .pointer none⟩
def ti143 : Ti := ⟨.pointer 128, 1, 8, .pointer none⟩
def ti144 : Ti := ⟨.int .u32, 1, 4, .int .u32 0⟩
def ti147 : Ti := ⟨.int .u64, 1, 8, .int .u64 0⟩
def ti153 : Ti := ⟨.array 0 16, 0, 0, .agg #[]⟩
def ti156 : Ti := ⟨.int .u8, 1, 1, .int .u8 0⟩
def ti157 : Ti := ⟨.int .u8, 1, 1, .int .u8 0⟩
def ti159 : Ti := ⟨.pointer 5, 1, 8, .pointer none⟩
def ti160 : Ti := ⟨.int .i32, 1, 4, .int .i32 0⟩
def ti161 : Ti := ⟨.int .i32, 1, 4, .int .i32 0⟩
def ti162 : Ti := ⟨.struct #[⟨ "Size_", 12, 0, false, "", "", 0⟩, ⟨ "PtrBytes", 12, 1, false, "", "", 8⟩, ⟨ "Hash", 144, 2, false, "", "", 16⟩, ⟨ "TFlag", 156, 3, false, "", "", 20⟩, ⟨ "Align_", 5, 4, false, "", "", 21⟩, ⟨ "FieldAlign_", 5, 5, false, "", "", 22⟩, ⟨ "Kind_", 157, 6, false, "", "", 23⟩, ⟨ "Equal", 158, 7, false, "", "", 24⟩, ⟨ "GCData", 159, 8, false, "", "", 32⟩, ⟨ "Str", 160, 9, false, "", "", 40⟩, ⟨ "PtrToThis", 161, 10, false, "", "", 44⟩], 11, 48, .agg #[.int .u64 0, .int .u64 0, .int .u32 0, .int .u8 0, .int .u8 0, .int .u8 0, .int .u8 0, .nilFunc, .pointer none, .int .i32 0, .int .i32 0]⟩
def ti163 : Ti := ⟨.struct #[⟨ "Size_", 12, 0, false, "", "", 0⟩, ⟨ "PtrBytes", 12, 1, false, "", "", 8⟩, ⟨ "Hash", 144, 2, false, "", "", 16⟩, ⟨ "TFlag", 156, 3, false, "", "", 20⟩, ⟨ "Align_", 5, 4, false, "", "", 21⟩, ⟨ "FieldAlign_", 5, 5, false, "", "", 22⟩, ⟨ "Kind_", 157, 6, false, "", "", 23⟩, ⟨ "Equal", 158, 7, false, "", "", 24⟩, ⟨ "GCData", 159, 8, false, "", "", 32⟩, ⟨ "Str", 160, 9, false, "", "", 40⟩, ⟨ "PtrToThis", 161, 10, false, "", "", 44⟩], 11, 48, .agg #[.int .u64 0, .int .u64 0, .int .u32 0, .int .u8 0, .int .u8 0, .int .u8 0, .int .u8 0, .nilFunc, .pointer none, .int .i32 0, .int .i32 0]⟩
theorem tiok2 : TiOk Try.prog 2 ti2 := ⟨by kernel_rfl, Try.t2, by kernel_rfl, by kernel_rfl, by kernel_rfl, by kernel_rfl⟩
theorem tiok3 : TiOk Try.prog 3 ti3 := ⟨by kernel_rfl, Try.t3, by kernel_rfl, by kernel_rfl, by kernel_rfl, by kernel_rfl⟩
theorem tiok4 : TiOk Try.prog 4 ti4 := ⟨by kernel_rfl, Try.t4, by kernel_rfl, by kernel_rfl, by kernel_rfl, by kernel_rfl⟩
theorem tiok5 : TiOk Try.prog 5 ti5 := ⟨by kernel_rfl, Try.t5, by kernel_rfl, by kernel_rfl, by kernel_rfl, by kernel_rfl⟩
theorem tiok6 : TiOk Try.prog 6 ti6 := ⟨by kernel_rfl, Try.t6, by kernel_rfl, by kernel_rfl, by kernel_rfl, by kernel_rfl⟩
theorem tiok9 : TiOk Try.prog 9 ti9 := ⟨by kernel_rfl, Try.t9, by kernel_rfl, by kernel_rfl, by kernel_rfl, by kernel_rfl⟩
theorem tiok10 : TiOk Try.prog 10 ti10 := ⟨by kernel_rfl, Try.t10, by kernel_rfl, by kernel_rfl, by kernel_rfl, by kernel_rfl⟩
theorem tiok11 : TiOk Try.prog 11 ti11 := ⟨by kernel_rfl, Try.t11, by kernel_rfl, by kernel_rfl, by kernel_rfl, by kernel_rfl⟩
theorem tiok12 : TiOk Try.prog 12 ti12 := ⟨by kernel_rfl, Try.t12, by kernel_rfl, by kernel_rfl, by kernel_rfl, by kernel_rfl⟩
theorem tiok15 : TiOk Try.prog 15 ti15 := ⟨by kernel_rfl, Try.t15, by kernel_rfl, by kernel_rfl, by kernel_rfl, by kernel_rfl⟩
theorem tiok16 : TiOk Try.prog 16 ti16 := ⟨by kernel_rfl, Try.t16, by kernel_rfl, by kernel_rfl, by kernel_rfl, by kernel_rfl⟩
theorem tiok17 : TiOk Try.prog 17 ti17 := ⟨by kernel_rfl, Try.t17, by kernel_rfl, by kernel_rfl, by kernel_rfl, by kernel_rfl⟩
theorem tiok20 : TiOk Try.prog 20 ti20 := ⟨by kernel_rfl, Try.t20, by kernel_rfl, by kernel_rfl, by kernel_rfl, by kernel_rfl⟩
theorem tiok21 : TiOk Try.prog 21 ti21 := ⟨by kernel_rfl, Try.t21, by kernel_rfl, by kernel_rfl, by kernel_rfl, by kernel_rfl⟩
theorem tiok22 : TiOk Try.prog 22 ti22 := ⟨by kernel_rfl, Try.t22, by kernel_rfl, by kernel_rfl, by kernel_rfl, by kernel_rfl⟩
theorem tiok23 : TiOk Try.prog 23 ti23 := ⟨by kernel_rfl, Try.t23, by kernel_rfl, by kernel_rfl, by kernel_rfl, by kernel_rfl⟩
theorem tiok24 : TiOk Try.prog 24 ti24 := ⟨by kernel_rfl, Try.t24, by kernel_rfl, by kernel_rfl, by kernel_rfl, by kernel_rfl⟩
theorem tiok25 : TiOk Try.prog 25 ti25 := ⟨by kernel_rfl, Try.t25, by kernel_rfl, by kernel_rfl, by kernel_rfl, by kernel_rfl⟩
theorem tiok26 : TiOk Try.prog 26 ti26 := ⟨by kernel_rfl, Try.t26, by kernel_rfl, by kernel_rfl, by kernel_rfl, by kernel_rfl⟩
theorem tiok28 : TiOk Try.prog 28 ti28 := ⟨by kernel_rfl, Try.t28, by kernel_rfl, by kernel_rfl, by kernel_rfl, by kernel_rfl⟩
theorem tiok29 : TiOk Try.prog 29 ti29 := ⟨by kernel_rfl, Try.t29, by kernel_rfl, by kernel_rfl, by kernel_rfl, by kernel_rfl⟩
theorem tiok30 : TiOk Try.prog 30 ti30 := ⟨by kernel_rfl, Try.t30, by kernel_rfl, by kernel_rfl, by kernel_rfl, by kernel_rfl⟩
theorem tiok31 : TiOk Try.prog 31 ti31 := ⟨by kernel_rfl, Try.t31, by kernel_rfl, by kernel_rfl, by kernel_rfl, by kernel_rfl⟩
theorem tiok32 : TiOk Try.prog 32 ti32 := ⟨by kernel_rfl, Try.t32, by kernel_rfl, by kernel_rfl, by kernel_rfl, by kernel_rfl⟩
theorem tiok33 : TiOk Try.prog 33 ti33 := ⟨by kernel_rfl, Try.t33, by kernel_rfl, by kernel_rfl, by kernel_rfl, by kernel_rfl⟩
theorem tiok34 : TiOk Try.prog 34 ti34 := ⟨by kernel_rfl, Try.t34, by kernel_rfl, by kernel_rfl, by kernel_rfl, by kernel_rfl⟩
theorem tiok35 : TiOk Try.prog 35 ti35 := ⟨by kernel_rfl, Try.t35, by kernel_rfl, by kernel_rfl, by kernel_rfl, by kernel_rfl⟩
theorem tiok38 : TiOk Try.prog 38 ti38 := ⟨by kernel_rfl, Try.t38, by kernel_rfl, by kernel_rfl, by kernel_rfl, by kernel_rfl⟩
theorem tiok39 : TiOk Try.prog 39 ti39 := ⟨by kernel_rfl, Try.t39, by kernel_rfl, by kernel_rfl, by kernel_rfl, by kernel_rfl⟩
theorem tiok41 : TiOk Try.prog 41 ti41 := ⟨by kernel_rfl, Try.t41, by kernel_rfl, by kernel_rfl, by kernel_rfl, by kernel_rfl⟩
theorem tiok42 : TiOk Try.prog 42 ti42 := ⟨by kernel_rfl, Try.t42, by kernel_rfl, by kernel_rfl, by kernel_rfl, by kernel_rfl⟩
theorem tiok43 : TiOk Try.prog 43 ti43 := ⟨by kernel_rfl, Try.t43, by kernel_rfl, by kernel_rfl, by kernel_rfl, by kernel_rfl⟩
theorem tiok47 : TiOk Try.prog 47 ti47 := ⟨by kernel_rfl, Try.t47, by kernel_rfl, by kernel_rfl, by kernel_rfl, by kernel_rfl⟩
theorem tiok48 : TiOk Try.prog 48 ti48 := ⟨by kernel_rfl, Try.t48, by kernel_rfl, by kernel_rfl, by kernel_rfl, by kernel_rfl⟩
theorem tiok52 : TiOk Try.prog 52 ti52 := ⟨by kernel_rfl, Try.t52, by kernel_rfl, by kernel_rfl, by kernel_rfl, by kernel_rfl⟩
theorem tiok53 : TiOk Try.prog 53 ti53 := ⟨by kernel_rfl, Try.t53, by kernel_rfl, by kernel_rfl, by kernel_rfl, by kernel_rfl⟩
theorem tiok54 : TiOk Try.prog 54 ti54 := ⟨by kernel_rfl, Try.t54, by kernel_rfl, by kernel_rfl, by kernel_rfl, by kernel_rfl⟩
theorem tiok55 : TiOk Try.prog 55 ti55 := ⟨by kernel_rfl, Try.t55, by kernel_rfl, by kernel_rfl, by kernel_rfl, by kernel_rfl⟩
theorem tiok58 : TiOk Try.prog 58 ti58 := ⟨by kernel_rfl, Try.t58, by kernel_rfl, by kernel_rfl, by kernel_rfl, by kernel_rfl⟩
theorem tiok59 : TiOk Try.prog 59 ti59 := ⟨by kernel_rfl, Try.t59, by kernel_rfl, by kernel_rfl, by kernel_rfl, by kernel_rfl⟩
theorem tiok64 : TiOk Try.prog 64 ti64 := ⟨by kernel_rfl, Try.t64, by kernel_rfl, by kernel_rfl, by kernel_rfl, by kernel_rfl⟩
theorem tiok67 : TiOk Try.prog 67 ti67 := ⟨by kernel_rfl, Try.t67, by kernel_rfl, by kernel_rfl, by kernel_rfl, by kernel_rfl⟩
theorem tiok70 : TiOk Try.prog 70 ti70 := ⟨by kernel_rfl, Try.t70, by kernel_rfl, by kernel_rfl, by kernel_rfl, by kernel_rfl⟩
theorem tiok71 : TiOk Try.prog 71 ti71 := ⟨by kernel_rfl, Try.t71, by kernel_rfl, by kernel_rfl, by kernel_rfl, by kernel_rfl⟩
theorem tiok74 : TiOk Try.prog 74 ti74 := ⟨by kernel_rfl, Try.t74, by kernel_rfl, by kernel_rfl, by kernel_rfl, by kernel_rfl⟩
theorem tiok75 : TiOk Try.prog 75 ti75 := ⟨by kernel_rfl, Try.t75, by kernel_rfl, by kernel_rfl, by kernel_rfl, by kernel_rfl⟩
theorem tiok76 : TiOk Try.prog 76 ti76 := ⟨by kernel_rfl, Try.t76, by kernel_rfl, by kernel_rfl, by kernel_rfl, by kernel_rfl⟩
theorem tiok85 : TiOk Try.prog 85 ti85 := ⟨by kernel_rfl, Try.t85, by kernel_rfl, by kernel_rfl, by kernel_rfl, by kernel_rfl⟩
theorem tiok89 : TiOk Try.prog 89 ti89 := ⟨by kernel_rfl, Try.t89, by kernel_rfl, by kernel_rfl, by kernel_rfl, by kernel_rfl⟩
theorem tiok90 : TiOk Try.prog 90 ti90 := ⟨by kernel_rfl, Try.t90, by kernel_rfl, by kernel_rfl, by kernel_rfl, by kernel_rfl⟩
theorem tiok95 : TiOk Try.prog 95 ti95 := ⟨by kernel_rfl, Try.t95, by kernel_rfl, by kernel_rfl, by kernel_rfl, by kernel_rfl⟩
theorem tiok97 : TiOk Try.prog 97 ti97 := ⟨by kernel_rfl, Try.t97, by kernel_rfl, by kernel_rfl, by kernel_rfl, by kernel_rfl⟩
theorem tiok101 : TiOk Try.prog 101 ti101 := ⟨by kernel_rfl, Try.t101, by kernel_rfl, by kernel_rfl, by kernel_rfl, by kernel_rfl⟩
theorem tiok102 : TiOk Try.prog 102 ti102 := ⟨by kernel_rfl, Try.t102, by kernel_rfl, by kernel_rfl, by kernel_rfl, by kernel_rfl⟩
theorem tiok123 : TiOk Try.prog 123 ti123 := ⟨by kernel_rfl, Try.t123, by kernel_rfl, by kernel_rfl, by kernel_rfl, by kernel_rfl⟩
theorem tiok124 : TiOk Try.prog 124 ti124 := ⟨by kernel_rfl, Try.t124, by kernel_rfl, by kernel_rfl, by kernel_rfl, by kernel_rfl⟩
theorem tiok125 : TiOk Try.prog 125 ti125 := ⟨by kernel_rfl, Try.t125, by kernel_rfl, by kernel_rfl, by kernel_rfl, by kernel_rfl⟩
theorem tiok126 : TiOk Try.prog 126 ti126 := ⟨by kernel_rfl, Try.t126, by kernel_rfl, by kernel_rfl, by kernel_rfl, by kernel_rfl⟩
theorem tiok127 : TiOk Try.prog 127 ti127 := ⟨by kernel_rfl, Try.t127, by kernel_rfl, by kernel_rfl, by kernel_rfl, by kernel_rfl⟩
theorem tiok128 : TiOk Try.prog 128 ti128 := ⟨by kernel_rfl, Try.t128, by kernel_rfl, by kernel_rfl, by kernel_rfl, by kernel_rfl⟩
theorem tiok129 : TiOk Try.prog 129 ti129 := ⟨by kernel_rfl, Try.t129, by kernel_rfl, by kernel_rfl, by kernel_rfl, by kernel_rfl⟩
theorem tiok130 : TiOk Try.prog 130 ti130 := ⟨by kernel_rfl, Try.t130, by kernel_rfl, by kernel_rfl, by kernel_rfl, by kernel_rfl⟩
theorem tiok134 : TiOk Try.prog 134 ti134 := ⟨by kernel_rfl, Try.t134, by kernel_rfl, by kernel_rfl, by kernel_rfl, by kernel_rfl⟩
theorem tiok143 : TiOk Try.prog 143 ti143 := ⟨by kernel_rfl, Try.t143, by kernel_rfl, by kernel_rfl, by kernel_rfl, by kernel_rfl⟩
theorem tiok144 : TiOk Try.prog 144 ti144 := ⟨by kernel_rfl, Try.t144, by kernel_rfl, by kernel_rfl, by kernel_rfl, by kernel_rfl⟩
theorem tiok147 : TiOk Try.prog 147 ti147 := ⟨by kernel_rfl, Try.t147, by kernel_rfl, by kernel_rfl, by kernel_rfl, by kernel_rfl⟩
theorem tiok153 : TiOk Try.prog 153 ti153 := ⟨by kernel_rfl, Try.t153, by kernel_rfl, by kernel_rfl, by kernel_rfl, by kernel_rfl⟩
theorem tiok156 : TiOk Try.prog 156 ti156 := ⟨by kernel_rfl, Try.t156, by kernel_rfl, by kernel_rfl, by kernel_rfl, by kernel_rfl⟩
theorem tiok157 : TiOk Try.prog 157 ti157 := ⟨by kernel_rfl, Try.t157, by kernel_rfl, by kernel_rfl, by kernel_rfl, by kernel_rfl⟩
theorem tiok159 : TiOk Try.prog 159 ti159 := ⟨by kernel_rfl, Try.t159, by kernel_rfl, by kernel_rfl, by kernel_rfl, by kernel_rfl⟩
theorem tiok160 : TiOk Try.prog 160 ti160 := ⟨by kernel_rfl, Try.t160, by kernel_rfl, by kernel_rfl, by kernel_rfl, by kernel_rfl⟩
theorem tiok161 : TiOk Try.prog 161 ti161 := ⟨by kernel_rfl, Try.t161, by kernel_rfl, by kernel_rfl, by kernel_rfl, by kernel_rfl⟩
theorem tiok162 : TiOk Try.prog 162 ti162 := ⟨by kernel_rfl, Try.t162, by kernel_rfl, by kernel_rfl, by kernel_rfl, by kernel_rfl⟩
theorem tiok163 : TiOk Try.prog 163 ti163 := ⟨by kernel_rfl, Try.t163, by kernel_rfl, by kernel_rfl, by kernel_rfl, by kernel_rfl⟩
def tab : List (Nat × Ti) := [(2, ti2), (3, ti3), (4, ti4), (5, ti5), (6, ti6), (9, ti9), (10, ti10), (11, ti11), (12, ti12), (15, ti15), (16, ti16), (17, ti17), (20, ti20), (21, ti21), (22, ti22), (23, ti23), (24, ti24), (25, ti25), (26, ti26), (28, ti28), (29, ti29), (30, ti30), (31, ti31), (32, ti32), (33, ti33), (34, ti34), (35, ti35), (38, ti38), (39, ti39), (41, ti41), (42, ti42), (43, ti43), (47, ti47), (48, ti48), (52, ti52), (53, ti53), (54, ti54), (55, ti55), (58, ti58), (59, ti59), (64, ti64), (67, ti67), (70, ti70), (71, ti71), (74, ti74), (75, ti75), (76, ti76), (85, ti85), (89, ti89), (90, ti90), (95, ti95), (97, ti97), (101, ti101), (102, ti102), (123, ti123), (124, ti124), (125, ti125), (126, ti126), (127, ti127), (128, ti128), (129, ti129), (130, ti130), (134, ti134), (143, ti143), (144, ti144), (147, ti147), (153, ti153), (156, ti156), (157, ti157), (159, ti159), (160, ti160), (161, ti161), (162, ti162), (163, ti163)]
theorem tab_ok : ∀ t i, tlook t tab = some i → TiOk Try.prog t i := by
  refine tab_ok_cons tiok2 ?_
  refine tab_ok_cons tiok3 ?_
  refine tab_ok_cons tiok4 ?_
  refine tab_ok_cons tiok5 ?_
  refine tab_ok_cons tiok6 ?_
  refine tab_ok_cons tiok9 ?_
  refine tab_ok_cons tiok10 ?_
  refine tab_ok_cons tiok11 ?_
  refine tab_ok_cons tiok12 ?_
  refine tab_ok_cons tiok15 ?_
  refine tab_ok_cons tiok16 ?_
  refine tab_ok_cons tiok17 ?_
  refine tab_ok_cons tiok20 ?_
  refine tab_ok_cons tiok21 ?_
  refine tab_ok_cons tiok22 ?_
  refine tab_ok_cons tiok23 ?_
  refine tab_ok_cons tiok24 ?_
  refine tab_ok_cons tiok25 ?_
  refine tab_ok_cons tiok26 ?_
  refine tab_ok_cons tiok28 ?_
  refine tab_ok_cons tiok29 ?_
  refine tab_ok_cons tiok30 ?_
  refine tab_ok_cons tiok31 ?_
  refine tab_ok_cons tiok32 ?_
  refine tab_ok_cons tiok33 ?_
  refine tab_ok_cons tiok34 ?_
  refine tab_ok_cons tiok35 ?_
  refine tab_ok_cons tiok38 ?_
  refine tab_ok_cons tiok39 ?_
  refine tab_ok_cons tiok41 ?_
  refine tab_ok_cons tiok42 ?_
  refine tab_ok_cons tiok43 ?_
  refine tab_ok_cons tiok47 ?_
  refine tab_ok_cons tiok48 ?_
  refine tab_ok_cons tiok52 ?_
  refine tab_ok_cons tiok53 ?_
  refine tab_ok_cons tiok54 ?_
  refine tab_ok_cons tiok55 ?_
  refine tab_ok_cons tiok58 ?_
  refine tab_ok_cons tiok59 ?_
  refine tab_ok_cons tiok64 ?_
  refine tab_ok_cons tiok67 ?_
  refine tab_ok_cons tiok70 ?_
  refine tab_ok_cons tiok71 ?_
  refine tab_ok_cons tiok74 ?_
  refine tab_ok_cons tiok75 ?_
  refine tab_ok_cons tiok76 ?_
  refine tab_ok_cons tiok85 ?_
  refine tab_ok_cons tiok89 ?_
  refine tab_ok_cons tiok90 ?_
  refine tab_ok_cons tiok95 ?_
  refine tab_ok_cons tiok97 ?_
  refine tab_ok_cons tiok101 ?_
  refine tab_ok_cons tiok102 ?_
  refine tab_ok_cons tiok123 ?_
  refine tab_ok_cons tiok124 ?_
  refine tab_ok_cons tiok125 ?_
  refine tab_ok_cons tiok126 ?_
  refine tab_ok_cons tiok127 ?_
  refine tab_ok_cons tiok128 ?_
  refine tab_ok_cons tiok129 ?_
  refine tab_ok_cons tiok130 ?_
  refine tab_ok_cons tiok134 ?_
  refine tab_ok_cons tiok143 ?_
  refine tab_ok_cons tiok144 ?_
  refine tab_ok_cons tiok147 ?_
  refine tab_ok_cons tiok153 ?_
  refine tab_ok_cons tiok156 ?_
  refine tab_ok_cons tiok157 ?_
  refine tab_ok_cons tiok159 ?_
  refine tab_ok_cons tiok160 ?_
  refine tab_ok_cons tiok161 ?_
  refine tab_ok_cons tiok162 ?_
  refine tab_ok_cons tiok163 ?_
  exact tab_ok_nil
noncomputable def X : Cx := ⟨Try.prog, tab, tab_ok, by kernel_rfl⟩
end Go.Proofs.Ythfjkdgopkmgoaa
