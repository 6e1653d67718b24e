/-
  The table of the types of this translation, each row a closed fact (written by a program of mine).
-/
import Derived.Test.YtmbjknampholjaaChecked
import Derived.KernelRfl
import Derived.Test.YtmbjknampholjaaSSlH
namespace Go.Proofs.Ytmbjknampholjaa
open Go.Sl

def ti2 : Ti := ⟨.int .i64, 1, 8, .int .i64 0⟩
def ti3 : Ti := ⟨.int .i64, 1, 8, .int .i64 0⟩
def ti4 : Ti := ⟨.bool, 1, 1, .bool false⟩
def ti5 : Ti := ⟨.int .u8, 1, 1, .int .u8 0⟩
def ti6 : Ti := ⟨.int .u8, 1, 1, .int .u8 0⟩
def ti9 : Ti := ⟨.string, 1, 16, .string ByteArray.empty⟩
def ti10 : Ti := ⟨.string, 1, 16, .string ByteArray.empty⟩
def ti11 : Ti := ⟨.string, 1, 16, .string ByteArray.empty⟩
def ti12 : Ti := ⟨.int .u64, 1, 8, .int .u64 0⟩
def ti15 : Ti := ⟨.pointer 155, 1, 8, .pointer none⟩
def ti16 : Ti := ⟨.pointer 158, 1, 8, .pointer none⟩
def ti17 : Ti := ⟨.pointer 167, 1, 8, .pointer none⟩
def ti20 : Ti := ⟨.interface #[], 1, 16, .nilIface⟩
def ti21 : Ti := ⟨.int .i32, 1, 4, .int .i32 0⟩
def ti22 : Ti := ⟨.array 2 5, 2, 2, .agg #[.int .u8 0, .int .u8 0]⟩
def ti23 : Ti := ⟨.array 9 5, 9, 9, .agg #[.int .u8 0, .int .u8 0, .int .u8 0, .int .u8 0, .int .u8 0, .int .u8 0, .int .u8 0, .int .u8 0, .int .u8 0]⟩
def ti24 : Ti := ⟨.array 9 5, 9, 9, .agg #[.int .u8 0, .int .u8 0, .int .u8 0, .int .u8 0, .int .u8 0, .int .u8 0, .int .u8 0, .int .u8 0, .int .u8 0]⟩
def ti25 : Ti := ⟨.struct #[⟨ "Size", 5, 0, false, "", "", 0⟩, ⟨ "At", 22, 1, false, "", "", 1⟩, ⟨ "S", 24, 3, false, "", "", 3⟩], 12, 12, .agg #[.int .u8 0, .int .u8 0, .int .u8 0, .int .u8 0, .int .u8 0, .int .u8 0, .int .u8 0, .int .u8 0, .int .u8 0, .int .u8 0, .int .u8 0, .int .u8 0]⟩
def ti26 : Ti := ⟨.struct #[⟨ "Size", 5, 0, false, "", "", 0⟩, ⟨ "At", 22, 1, false, "", "", 1⟩, ⟨ "S", 24, 3, false, "", "", 3⟩], 12, 12, .agg #[.int .u8 0, .int .u8 0, .int .u8 0, .int .u8 0, .int .u8 0, .int .u8 0, .int .u8 0, .int .u8 0, .int .u8 0, .int .u8 0, .int .u8 0, .int .u8 0]⟩
def ti27 : Ti := ⟨.slice 43, 1, 24, .slice none 0 0⟩
def ti28 : Ti := ⟨.struct #[⟨ "Phase", 3, 0, false, "", "", 0⟩, ⟨ "Step", 3, 1, false, "", "", 8⟩, ⟨ "Sub", 3, 2, false, "", "", 16⟩, ⟨ "Undo", 3, 3, false, "", "", 24⟩, ⟨ "Tries", 3, 4, false, "", "", 32⟩, ⟨ "Set", 3, 5, false, "", "", 40⟩, ⟨ "Stage", 3, 6, false, "", "", 48⟩, ⟨ "Version", 3, 7, false, "", "", 56⟩, ⟨ "Last", 3, 8, false, "", "", 64⟩], 9, 72, .agg #[.int .i64 0, .int .i64 0, .int .i64 0, .int .i64 0, .int .i64 0, .int .i64 0, .int .i64 0, .int .i64 0, .int .i64 0]⟩
def ti29 : Ti := ⟨.struct #[⟨ "Phase", 3, 0, false, "", "", 0⟩, ⟨ "Step", 3, 1, false, "", "", 8⟩, ⟨ "Sub", 3, 2, false, "", "", 16⟩, ⟨ "Undo", 3, 3, false, "", "", 24⟩, ⟨ "Tries", 3, 4, false, "", "", 32⟩, ⟨ "Set", 3, 5, false, "", "", 40⟩, ⟨ "Stage", 3, 6, false, "", "", 48⟩, ⟨ "Version", 3, 7, false, "", "", 56⟩, ⟨ "Last", 3, 8, false, "", "", 64⟩], 9, 72, .agg #[.int .i64 0, .int .i64 0, .int .i64 0, .int .i64 0, .int .i64 0, .int .i64 0, .int .i64 0, .int .i64 0, .int .i64 0]⟩
def ti31 : Ti := ⟨.slice 45, 1, 24, .slice none 0 0⟩
def ti32 : Ti := ⟨.slice 3, 1, 24, .slice none 0 0⟩
def ti33 : Ti := ⟨.slice 4, 1, 24, .slice none 0 0⟩
def ti34 : Ti := ⟨.struct #[⟨ "Size", 3, 0, false, "", "", 0⟩, ⟨ "Data", 31, 1, false, "", "", 8⟩, ⟨ "Wear", 32, 2, false, "", "", 32⟩, ⟨ "Limit", 3, 3, false, "", "", 56⟩, ⟨ "Dead", 33, 4, false, "", "", 64⟩], 5, 88, .agg #[.int .i64 0, .slice none 0 0, .slice none 0 0, .int .i64 0, .slice none 0 0]⟩
def ti35 : Ti := ⟨.struct #[⟨ "Size", 3, 0, false, "", "", 0⟩, ⟨ "Data", 31, 1, false, "", "", 8⟩, ⟨ "Wear", 32, 2, false, "", "", 32⟩, ⟨ "Limit", 3, 3, false, "", "", 56⟩, ⟨ "Dead", 33, 4, false, "", "", 64⟩], 5, 88, .agg #[.int .i64 0, .slice none 0 0, .slice none 0 0, .int .i64 0, .slice none 0 0]⟩
def ti37 : Ti := ⟨.array 2 3, 2, 16, .agg #[.int .i64 0, .int .i64 0]⟩
def ti38 : Ti := ⟨.struct #[⟨ "Sectors", 3, 0, false, "", "", 0⟩, ⟨ "Journal", 37, 1, false, "", "", 8⟩, ⟨ "Settings", 37, 3, false, "", "", 24⟩, ⟨ "Stage", 32, 5, false, "", "", 40⟩, ⟨ "Undo", 32, 6, false, "", "", 64⟩, ⟨ "Stash", 32, 7, false, "", "", 88⟩], 8, 112, .agg #[.int .i64 0, .int .i64 0, .int .i64 0, .int .i64 0, .int .i64 0, .slice none 0 0, .slice none 0 0, .slice none 0 0]⟩
def ti39 : Ti := ⟨.struct #[⟨ "Sectors", 3, 0, false, "", "", 0⟩, ⟨ "Journal", 37, 1, false, "", "", 8⟩, ⟨ "Settings", 37, 3, false, "", "", 24⟩, ⟨ "Stage", 32, 5, false, "", "", 40⟩, ⟨ "Undo", 32, 6, false, "", "", 64⟩, ⟨ "Stash", 32, 7, false, "", "", 88⟩], 8, 112, .agg #[.int .i64 0, .int .i64 0, .int .i64 0, .int .i64 0, .int .i64 0, .slice none 0 0, .slice none 0 0, .slice none 0 0]⟩
def ti42 : Ti := ⟨.struct #[⟨ "S", 24, 0, false, "", "", 0⟩, ⟨ "Torn", 31, 9, false, "", "", 16⟩], 10, 40, .agg #[.int .u8 0, .int .u8 0, .int .u8 0, .int .u8 0, .int .u8 0, .int .u8 0, .int .u8 0, .int .u8 0, .int .u8 0, .slice none 0 0]⟩
def ti43 : Ti := ⟨.struct #[⟨ "S", 24, 0, false, "", "", 0⟩, ⟨ "Torn", 31, 9, false, "", "", 16⟩], 10, 40, .agg #[.int .u8 0, .int .u8 0, .int .u8 0, .int .u8 0, .int .u8 0, .int .u8 0, .int .u8 0, .int .u8 0, .int .u8 0, .slice none 0 0]⟩
def ti45 : Ti := ⟨.slice 5, 1, 24, .slice none 0 0⟩
def ti47 : Ti := ⟨.int .i64, 1, 8, .int .i64 0⟩
def ti48 : Ti := ⟨.struct #[⟨ "S", 29, 0, false, "", "", 0⟩, ⟨ "Torn", 3, 9, false, "", "", 72⟩, ⟨ "E", 47, 10, false, "", "", 80⟩], 11, 88, .agg #[.int .i64 0, .int .i64 0, .int .i64 0, .int .i64 0, .int .i64 0, .int .i64 0, .int .i64 0, .int .i64 0, .int .i64 0, .int .i64 0, .int .i64 0]⟩
def ti49 : Ti := ⟨.struct #[⟨ "S", 29, 0, false, "", "", 0⟩, ⟨ "Torn", 3, 9, false, "", "", 72⟩, ⟨ "E", 47, 10, false, "", "", 80⟩], 11, 88, .agg #[.int .i64 0, .int .i64 0, .int .i64 0, .int .i64 0, .int .i64 0, .int .i64 0, .int .i64 0, .int .i64 0, .int .i64 0, .int .i64 0, .int .i64 0]⟩
def ti52 : Ti := ⟨.struct #[⟨ "Kind", 3, 0, false, "", "", 0⟩, ⟨ "Sector", 3, 1, false, "", "", 8⟩, ⟨ "At", 3, 2, false, "", "", 16⟩, ⟨ "Data", 45, 3, false, "", "", 24⟩], 4, 48, .agg #[.int .i64 0, .int .i64 0, .int .i64 0, .slice none 0 0]⟩
def ti53 : Ti := ⟨.struct #[⟨ "Kind", 3, 0, false, "", "", 0⟩, ⟨ "Sector", 3, 1, false, "", "", 8⟩, ⟨ "At", 3, 2, false, "", "", 16⟩, ⟨ "Data", 45, 3, false, "", "", 24⟩], 4, 48, .agg #[.int .i64 0, .int .i64 0, .int .i64 0, .slice none 0 0]⟩
def ti54 : Ti := ⟨.struct #[⟨ "X", 53, 0, false, "", "", 0⟩, ⟨ "Done", 4, 4, false, "", "", 48⟩, ⟨ "E", 47, 5, false, "", "", 56⟩], 6, 64, .agg #[.int .i64 0, .int .i64 0, .int .i64 0, .slice none 0 0, .bool false, .int .i64 0]⟩
def ti55 : Ti := ⟨.struct #[⟨ "X", 53, 0, false, "", "", 0⟩, ⟨ "Done", 4, 4, false, "", "", 48⟩, ⟨ "E", 47, 5, false, "", "", 56⟩], 6, 64, .agg #[.int .i64 0, .int .i64 0, .int .i64 0, .slice none 0 0, .bool false, .int .i64 0]⟩
def ti66 : Ti := ⟨.slice 24, 1, 24, .slice none 0 0⟩
def ti67 : Ti := ⟨.struct #[⟨ "Sector", 3, 0, false, "", "", 0⟩, ⟨ "Other", 3, 1, false, "", "", 8⟩, ⟨ "Gen", 3, 2, false, "", "", 16⟩, ⟨ "S", 29, 3, false, "", "", 24⟩, ⟨ "Free", 3, 12, false, "", "", 96⟩, ⟨ "Torn", 3, 13, false, "", "", 104⟩, ⟨ "Is", 4, 14, false, "", "", 112⟩], 15, 120, .agg #[.int .i64 0, .int .i64 0, .int .i64 0, .int .i64 0, .int .i64 0, .int .i64 0, .int .i64 0, .int .i64 0, .int .i64 0, .int .i64 0, .int .i64 0, .int .i64 0, .int .i64 0, .int .i64 0, .bool false]⟩
def ti68 : Ti := ⟨.struct #[⟨ "Sector", 3, 0, false, "", "", 0⟩, ⟨ "Other", 3, 1, false, "", "", 8⟩, ⟨ "Gen", 3, 2, false, "", "", 16⟩, ⟨ "S", 29, 3, false, "", "", 24⟩, ⟨ "Free", 3, 12, false, "", "", 96⟩, ⟨ "Torn", 3, 13, false, "", "", 104⟩, ⟨ "Is", 4, 14, false, "", "", 112⟩], 15, 120, .agg #[.int .i64 0, .int .i64 0, .int .i64 0, .int .i64 0, .int .i64 0, .int .i64 0, .int .i64 0, .int .i64 0, .int .i64 0, .int .i64 0, .int .i64 0, .int .i64 0, .int .i64 0, .int .i64 0, .bool false]⟩
def ti76 : Ti := ⟨.int .i16, 1, 2, .int .i16 0⟩
def ti77 : Ti := ⟨.array 2 76, 2, 4, .agg #[.int .i16 0, .int .i16 0]⟩
def ti84 : Ti := ⟨.pointer 86, 1, 8, .pointer none⟩
def ti85 : Ti := ⟨.struct #[⟨ "b", 45, 0, false, "", "inlay/journal", 0⟩], 1, 24, .agg #[.slice none 0 0]⟩
def ti86 : Ti := ⟨.struct #[⟨ "b", 45, 0, false, "", "inlay/journal", 0⟩], 1, 24, .agg #[.slice none 0 0]⟩
def ti87 : Ti := ⟨.slice 92, 1, 24, .slice none 0 0⟩
def ti89 : Ti := ⟨.pointer 29, 1, 8, .pointer none⟩
def ti90 : Ti := ⟨.pointer 3, 1, 8, .pointer none⟩
def ti91 : Ti := ⟨.struct #[⟨ "value", 90, 0, false, "", "inlay/journal", 0⟩, ⟨ "width", 3, 1, false, "", "inlay/journal", 8⟩], 2, 16, .agg #[.pointer none, .int .i64 0]⟩
def ti92 : Ti := ⟨.struct #[⟨ "value", 90, 0, false, "", "inlay/journal", 0⟩, ⟨ "width", 3, 1, false, "", "inlay/journal", 8⟩], 2, 16, .agg #[.pointer none, .int .i64 0]⟩
def ti118 : Ti := ⟨.array 5 3, 5, 40, .agg #[.int .i64 0, .int .i64 0, .int .i64 0, .int .i64 0, .int .i64 0]⟩
def ti119 : Ti := ⟨.array 3 3, 3, 24, .agg #[.int .i64 0, .int .i64 0, .int .i64 0]⟩
def ti120 : Ti := ⟨.struct #[⟨ "sector", 3, 0, false, "", "inlay/journal", 0⟩, ⟨ "other", 3, 1, false, "", "inlay/journal", 8⟩, ⟨ "gen", 3, 2, false, "", "inlay/journal", 16⟩, ⟨ "s", 29, 3, false, "", "inlay/journal", 24⟩, ⟨ "found", 4, 12, false, "", "inlay/journal", 96⟩, ⟨ "free", 3, 13, false, "", "inlay/journal", 104⟩, ⟨ "places", 3, 14, false, "", "inlay/journal", 112⟩, ⟨ "torn", 3, 15, false, "", "inlay/journal", 120⟩], 16, 128, .agg #[.int .i64 0, .int .i64 0, .int .i64 0, .int .i64 0, .int .i64 0, .int .i64 0, .int .i64 0, .int .i64 0, .int .i64 0, .int .i64 0, .int .i64 0, .int .i64 0, .bool false, .int .i64 0, .int .i64 0, .int .i64 0]⟩
def ti121 : Ti := ⟨.struct #[⟨ "sector", 3, 0, false, "", "inlay/journal", 0⟩, ⟨ "other", 3, 1, false, "", "inlay/journal", 8⟩, ⟨ "gen", 3, 2, false, "", "inlay/journal", 16⟩, ⟨ "s", 29, 3, false, "", "inlay/journal", 24⟩, ⟨ "found", 4, 12, false, "", "inlay/journal", 96⟩, ⟨ "free", 3, 13, false, "", "inlay/journal", 104⟩, ⟨ "places", 3, 14, false, "", "inlay/journal", 112⟩, ⟨ "torn", 3, 15, false, "", "inlay/journal", 120⟩], 16, 128, .agg #[.int .i64 0, .int .i64 0, .int .i64 0, .int .i64 0, .int .i64 0, .int .i64 0, .int .i64 0, .int .i64 0, .int .i64 0, .int .i64 0, .int .i64 0, .int .i64 0, .bool false, .int .i64 0, .int .i64 0, .int .i64 0]⟩
def ti132 : Ti := ⟨.int .u64, 1, 8, .int .u64 0⟩
def ti136 : Ti := ⟨.pointer 149, 1, 8, .pointer none⟩
def ti140 : Ti := ⟨.int .u32, 1, 4, .int .u32 0⟩
def ti143 : Ti := ⟨.int .u64, 1, 8, .int .u64 0⟩
def ti146 : Ti := ⟨.struct #[], 0, 0, .agg #[]⟩
def ti147 : Ti := ⟨.struct #[], 0, 0, .agg #[]⟩
def ti149 : Ti := ⟨.struct #[⟨ "b", 45, 0, false, "", "inlay/journal", 0⟩], 1, 24, .agg #[.slice none 0 0]⟩
def ti156 : Ti := ⟨.array 0 16, 0, 0, .agg #[]⟩
def ti160 : Ti := ⟨.int .u8, 1, 1, .int .u8 0⟩
def ti161 : Ti := ⟨.int .u8, 1, 1, .int .u8 0⟩
def ti163 : Ti := ⟨.pointer 5, 1, 8, .pointer none⟩
def ti164 : Ti := ⟨.int .i32, 1, 4, .int .i32 0⟩
def ti165 : Ti := ⟨.int .i32, 1, 4, .int .i32 0⟩
def ti166 : Ti := ⟨.struct #[⟨ "Size_", 12, 0, false, "", "", 0⟩, ⟨ "PtrBytes", 12, 1, false, "", "", 8⟩, ⟨ "Hash", 140, 2, false, "", "", 16⟩, ⟨ "TFlag", 160, 3, false, "", "", 20⟩, ⟨ "Align_", 5, 4, false, "", "", 21⟩, ⟨ "FieldAlign_", 5, 5, false, "", "", 22⟩, ⟨ "Kind_", 161, 6, false, "", "", 23⟩, ⟨ "Equal", 162, 7, false, "", "", 24⟩, ⟨ "GCData", 163, 8, false, "", "", 32⟩, ⟨ "Str", 164, 9, false, "", "", 40⟩, ⟨ "PtrToThis", 165, 10, false, "", "", 44⟩], 11, 48, .agg #[.int .u64 0, .int .u64 0, .int .u32 0, .int .u8 0, .int .u8 0, .int .u8 0, .int .u8 0, .nilFunc, .pointer none, .int .i32 0, .int .i32 0]⟩
def ti167 : Ti := ⟨.struct #[⟨ "Size_", 12, 0, false, "", "", 0⟩, ⟨ "PtrBytes", 12, 1, false, "", "", 8⟩, ⟨ "Hash", 140, 2, false, "", "", 16⟩, ⟨ "TFlag", 160, 3, false, "", "", 20⟩, ⟨ "Align_", 5, 4, false, "", "", 21⟩, ⟨ "FieldAlign_", 5, 5, false, "", "", 22⟩, ⟨ "Kind_", 161, 6, false, "", "", 23⟩, ⟨ "Equal", 162, 7, false, "", "", 24⟩, ⟨ "GCData", 163, 8, false, "", "", 32⟩, ⟨ "Str", 164, 9, false, "", "", 40⟩, ⟨ "PtrToThis", 165, 10, false, "", "", 44⟩], 11, 48, .agg #[.int .u64 0, .int .u64 0, .int .u32 0, .int .u8 0, .int .u8 0, .int .u8 0, .int .u8 0, .nilFunc, .pointer none, .int .i32 0, .int .i32 0]⟩
theorem tiok2 : TiOk Try.prog 2 ti2 := ⟨by kernel_rfl, Try.t2, by kernel_rfl, by kernel_rfl, by kernel_rfl, by kernel_rfl⟩
theorem tiok3 : TiOk Try.prog 3 ti3 := ⟨by kernel_rfl, Try.t3, by kernel_rfl, by kernel_rfl, by kernel_rfl, by kernel_rfl⟩
theorem tiok4 : TiOk Try.prog 4 ti4 := ⟨by kernel_rfl, Try.t4, by kernel_rfl, by kernel_rfl, by kernel_rfl, by kernel_rfl⟩
theorem tiok5 : TiOk Try.prog 5 ti5 := ⟨by kernel_rfl, Try.t5, by kernel_rfl, by kernel_rfl, by kernel_rfl, by kernel_rfl⟩
theorem tiok6 : TiOk Try.prog 6 ti6 := ⟨by kernel_rfl, Try.t6, by kernel_rfl, by kernel_rfl, by kernel_rfl, by kernel_rfl⟩
theorem tiok9 : TiOk Try.prog 9 ti9 := ⟨by kernel_rfl, Try.t9, by kernel_rfl, by kernel_rfl, by kernel_rfl, by kernel_rfl⟩
theorem tiok10 : TiOk Try.prog 10 ti10 := ⟨by kernel_rfl, Try.t10, by kernel_rfl, by kernel_rfl, by kernel_rfl, by kernel_rfl⟩
theorem tiok11 : TiOk Try.prog 11 ti11 := ⟨by kernel_rfl, Try.t11, by kernel_rfl, by kernel_rfl, by kernel_rfl, by kernel_rfl⟩
theorem tiok12 : TiOk Try.prog 12 ti12 := ⟨by kernel_rfl, Try.t12, by kernel_rfl, by kernel_rfl, by kernel_rfl, by kernel_rfl⟩
theorem tiok15 : TiOk Try.prog 15 ti15 := ⟨by kernel_rfl, Try.t15, by kernel_rfl, by kernel_rfl, by kernel_rfl, by kernel_rfl⟩
theorem tiok16 : TiOk Try.prog 16 ti16 := ⟨by kernel_rfl, Try.t16, by kernel_rfl, by kernel_rfl, by kernel_rfl, by kernel_rfl⟩
theorem tiok17 : TiOk Try.prog 17 ti17 := ⟨by kernel_rfl, Try.t17, by kernel_rfl, by kernel_rfl, by kernel_rfl, by kernel_rfl⟩
theorem tiok20 : TiOk Try.prog 20 ti20 := ⟨by kernel_rfl, Try.t20, by kernel_rfl, by kernel_rfl, by kernel_rfl, by kernel_rfl⟩
theorem tiok21 : TiOk Try.prog 21 ti21 := ⟨by kernel_rfl, Try.t21, by kernel_rfl, by kernel_rfl, by kernel_rfl, by kernel_rfl⟩
theorem tiok22 : TiOk Try.prog 22 ti22 := ⟨by kernel_rfl, Try.t22, by kernel_rfl, by kernel_rfl, by kernel_rfl, by kernel_rfl⟩
theorem tiok23 : TiOk Try.prog 23 ti23 := ⟨by kernel_rfl, Try.t23, by kernel_rfl, by kernel_rfl, by kernel_rfl, by kernel_rfl⟩
theorem tiok24 : TiOk Try.prog 24 ti24 := ⟨by kernel_rfl, Try.t24, by kernel_rfl, by kernel_rfl, by kernel_rfl, by kernel_rfl⟩
theorem tiok25 : TiOk Try.prog 25 ti25 := ⟨by kernel_rfl, Try.t25, by kernel_rfl, by kernel_rfl, by kernel_rfl, by kernel_rfl⟩
theorem tiok26 : TiOk Try.prog 26 ti26 := ⟨by kernel_rfl, Try.t26, by kernel_rfl, by kernel_rfl, by kernel_rfl, by kernel_rfl⟩
theorem tiok27 : TiOk Try.prog 27 ti27 := ⟨by kernel_rfl, Try.t27, by kernel_rfl, by kernel_rfl, by kernel_rfl, by kernel_rfl⟩
theorem tiok28 : TiOk Try.prog 28 ti28 := ⟨by kernel_rfl, Try.t28, by kernel_rfl, by kernel_rfl, by kernel_rfl, by kernel_rfl⟩
theorem tiok29 : TiOk Try.prog 29 ti29 := ⟨by kernel_rfl, Try.t29, by kernel_rfl, by kernel_rfl, by kernel_rfl, by kernel_rfl⟩
theorem tiok31 : TiOk Try.prog 31 ti31 := ⟨by kernel_rfl, Try.t31, by kernel_rfl, by kernel_rfl, by kernel_rfl, by kernel_rfl⟩
theorem tiok32 : TiOk Try.prog 32 ti32 := ⟨by kernel_rfl, Try.t32, by kernel_rfl, by kernel_rfl, by kernel_rfl, by kernel_rfl⟩
theorem tiok33 : TiOk Try.prog 33 ti33 := ⟨by kernel_rfl, Try.t33, by kernel_rfl, by kernel_rfl, by kernel_rfl, by kernel_rfl⟩
theorem tiok34 : TiOk Try.prog 34 ti34 := ⟨by kernel_rfl, Try.t34, by kernel_rfl, by kernel_rfl, by kernel_rfl, by kernel_rfl⟩
theorem tiok35 : TiOk Try.prog 35 ti35 := ⟨by kernel_rfl, Try.t35, by kernel_rfl, by kernel_rfl, by kernel_rfl, by kernel_rfl⟩
theorem tiok37 : TiOk Try.prog 37 ti37 := ⟨by kernel_rfl, Try.t37, by kernel_rfl, by kernel_rfl, by kernel_rfl, by kernel_rfl⟩
theorem tiok38 : TiOk Try.prog 38 ti38 := ⟨by kernel_rfl, Try.t38, by kernel_rfl, by kernel_rfl, by kernel_rfl, by kernel_rfl⟩
theorem tiok39 : TiOk Try.prog 39 ti39 := ⟨by kernel_rfl, Try.t39, by kernel_rfl, by kernel_rfl, by kernel_rfl, by kernel_rfl⟩
theorem tiok42 : TiOk Try.prog 42 ti42 := ⟨by kernel_rfl, Try.t42, by kernel_rfl, by kernel_rfl, by kernel_rfl, by kernel_rfl⟩
theorem tiok43 : TiOk Try.prog 43 ti43 := ⟨by kernel_rfl, Try.t43, by kernel_rfl, by kernel_rfl, by kernel_rfl, by kernel_rfl⟩
theorem tiok45 : TiOk Try.prog 45 ti45 := ⟨by kernel_rfl, Try.t45, by kernel_rfl, by kernel_rfl, by kernel_rfl, by kernel_rfl⟩
theorem tiok47 : TiOk Try.prog 47 ti47 := ⟨by kernel_rfl, Try.t47, by kernel_rfl, by kernel_rfl, by kernel_rfl, by kernel_rfl⟩
theorem tiok48 : TiOk Try.prog 48 ti48 := ⟨by kernel_rfl, Try.t48, by kernel_rfl, by kernel_rfl, by kernel_rfl, by kernel_rfl⟩
theorem tiok49 : TiOk Try.prog 49 ti49 := ⟨by kernel_rfl, Try.t49, by kernel_rfl, by kernel_rfl, by kernel_rfl, by kernel_rfl⟩
theorem tiok52 : TiOk Try.prog 52 ti52 := ⟨by kernel_rfl, Try.t52, by kernel_rfl, by kernel_rfl, by kernel_rfl, by kernel_rfl⟩
theorem tiok53 : TiOk Try.prog 53 ti53 := ⟨by kernel_rfl, Try.t53, by kernel_rfl, by kernel_rfl, by kernel_rfl, by kernel_rfl⟩
theorem tiok54 : TiOk Try.prog 54 ti54 := ⟨by kernel_rfl, Try.t54, by kernel_rfl, by kernel_rfl, by kernel_rfl, by kernel_rfl⟩
theorem tiok55 : TiOk Try.prog 55 ti55 := ⟨by kernel_rfl, Try.t55, by kernel_rfl, by kernel_rfl, by kernel_rfl, by kernel_rfl⟩
theorem tiok66 : TiOk Try.prog 66 ti66 := ⟨by kernel_rfl, Try.t66, by kernel_rfl, by kernel_rfl, by kernel_rfl, by kernel_rfl⟩
theorem tiok67 : TiOk Try.prog 67 ti67 := ⟨by kernel_rfl, Try.t67, by kernel_rfl, by kernel_rfl, by kernel_rfl, by kernel_rfl⟩
theorem tiok68 : TiOk Try.prog 68 ti68 := ⟨by kernel_rfl, Try.t68, by kernel_rfl, by kernel_rfl, by kernel_rfl, by kernel_rfl⟩
theorem tiok76 : TiOk Try.prog 76 ti76 := ⟨by kernel_rfl, Try.t76, by kernel_rfl, by kernel_rfl, by kernel_rfl, by kernel_rfl⟩
theorem tiok77 : TiOk Try.prog 77 ti77 := ⟨by kernel_rfl, Try.t77, by kernel_rfl, by kernel_rfl, by kernel_rfl, by kernel_rfl⟩
theorem tiok84 : TiOk Try.prog 84 ti84 := ⟨by kernel_rfl, Try.t84, by kernel_rfl, by kernel_rfl, by kernel_rfl, by kernel_rfl⟩
theorem tiok85 : TiOk Try.prog 85 ti85 := ⟨by kernel_rfl, Try.t85, by kernel_rfl, by kernel_rfl, by kernel_rfl, by kernel_rfl⟩
theorem tiok86 : TiOk Try.prog 86 ti86 := ⟨by kernel_rfl, Try.t86, by kernel_rfl, by kernel_rfl, by kernel_rfl, by kernel_rfl⟩
theorem tiok87 : TiOk Try.prog 87 ti87 := ⟨by kernel_rfl, Try.t87, by kernel_rfl, by kernel_rfl, by kernel_rfl, by kernel_rfl⟩
theorem tiok89 : TiOk Try.prog 89 ti89 := ⟨by kernel_rfl, Try.t89, by kernel_rfl, by kernel_rfl, by kernel_rfl, by kernel_rfl⟩
theorem tiok90 : TiOk Try.prog 90 ti90 := ⟨by kernel_rfl, Try.t90, by kernel_rfl, by kernel_rfl, by kernel_rfl, by kernel_rfl⟩
theorem tiok91 : TiOk Try.prog 91 ti91 := ⟨by kernel_rfl, Try.t91, by kernel_rfl, by kernel_rfl, by kernel_rfl, by kernel_rfl⟩
theorem tiok92 : TiOk Try.prog 92 ti92 := ⟨by kernel_rfl, Try.t92, by kernel_rfl, by kernel_rfl, by kernel_rfl, by kernel_rfl⟩
theorem tiok118 : TiOk Try.prog 118 ti118 := ⟨by kernel_rfl, Try.t118, by kernel_rfl, by kernel_rfl, by kernel_rfl, by kernel_rfl⟩
theorem tiok119 : TiOk Try.prog 119 ti119 := ⟨by kernel_rfl, Try.t119, by kernel_rfl, by kernel_rfl, by kernel_rfl, by kernel_rfl⟩
theorem tiok120 : TiOk Try.prog 120 ti120 := ⟨by kernel_rfl, Try.t120, by kernel_rfl, by kernel_rfl, by kernel_rfl, by kernel_rfl⟩
theorem tiok121 : TiOk Try.prog 121 ti121 := ⟨by kernel_rfl, Try.t121, by kernel_rfl, by kernel_rfl, by kernel_rfl, by kernel_rfl⟩
theorem tiok132 : TiOk Try.prog 132 ti132 := ⟨by kernel_rfl, Try.t132, by kernel_rfl, by kernel_rfl, by kernel_rfl, by kernel_rfl⟩
theorem tiok136 : TiOk Try.prog 136 ti136 := ⟨by kernel_rfl, Try.t136, by kernel_rfl, by kernel_rfl, by kernel_rfl, by kernel_rfl⟩
theorem tiok140 : TiOk Try.prog 140 ti140 := ⟨by kernel_rfl, Try.t140, by kernel_rfl, by kernel_rfl, by kernel_rfl, by kernel_rfl⟩
theorem tiok143 : TiOk Try.prog 143 ti143 := ⟨by kernel_rfl, Try.t143, by kernel_rfl, by kernel_rfl, by kernel_rfl, by kernel_rfl⟩
theorem tiok146 : TiOk Try.prog 146 ti146 := ⟨by kernel_rfl, Try.t146, by kernel_rfl, by kernel_rfl, by kernel_rfl, by kernel_rfl⟩
theorem tiok147 : TiOk Try.prog 147 ti147 := ⟨by kernel_rfl, Try.t147, by kernel_rfl, by kernel_rfl, by kernel_rfl, by kernel_rfl⟩
theorem tiok149 : TiOk Try.prog 149 ti149 := ⟨by kernel_rfl, Try.t149, by kernel_rfl, by kernel_rfl, by kernel_rfl, by kernel_rfl⟩
theorem tiok156 : TiOk Try.prog 156 ti156 := ⟨by kernel_rfl, Try.t156, by kernel_rfl, by kernel_rfl, by kernel_rfl, by kernel_rfl⟩
theorem tiok160 : TiOk Try.prog 160 ti160 := ⟨by kernel_rfl, Try.t160, by kernel_rfl, by kernel_rfl, by kernel_rfl, by kernel_rfl⟩
theorem tiok161 : TiOk Try.prog 161 ti161 := ⟨by kernel_rfl, Try.t161, by kernel_rfl, by kernel_rfl, by kernel_rfl, by kernel_rfl⟩
theorem tiok163 : TiOk Try.prog 163 ti163 := ⟨by kernel_rfl, Try.t163, by kernel_rfl, by kernel_rfl, by kernel_rfl, by kernel_rfl⟩
theorem tiok164 : TiOk Try.prog 164 ti164 := ⟨by kernel_rfl, Try.t164, by kernel_rfl, by kernel_rfl, by kernel_rfl, by kernel_rfl⟩
theorem tiok165 : TiOk Try.prog 165 ti165 := ⟨by kernel_rfl, Try.t165, by kernel_rfl, by kernel_rfl, by kernel_rfl, by kernel_rfl⟩
theorem tiok166 : TiOk Try.prog 166 ti166 := ⟨by kernel_rfl, Try.t166, by kernel_rfl, by kernel_rfl, by kernel_rfl, by kernel_rfl⟩
theorem tiok167 : TiOk Try.prog 167 ti167 := ⟨by kernel_rfl, Try.t167, by kernel_rfl, by kernel_rfl, by kernel_rfl, by kernel_rfl⟩
def tab : List (Nat × Ti) := [(2, ti2), (3, ti3), (4, ti4), (5, ti5), (6, ti6), (9, ti9), (10, ti10), (11, ti11), (12, ti12), (15, ti15), (16, ti16), (17, ti17), (20, ti20), (21, ti21), (22, ti22), (23, ti23), (24, ti24), (25, ti25), (26, ti26), (27, ti27), (28, ti28), (29, ti29), (31, ti31), (32, ti32), (33, ti33), (34, ti34), (35, ti35), (37, ti37), (38, ti38), (39, ti39), (42, ti42), (43, ti43), (45, ti45), (47, ti47), (48, ti48), (49, ti49), (52, ti52), (53, ti53), (54, ti54), (55, ti55), (66, ti66), (67, ti67), (68, ti68), (76, ti76), (77, ti77), (84, ti84), (85, ti85), (86, ti86), (87, ti87), (89, ti89), (90, ti90), (91, ti91), (92, ti92), (118, ti118), (119, ti119), (120, ti120), (121, ti121), (132, ti132), (136, ti136), (140, ti140), (143, ti143), (146, ti146), (147, ti147), (149, ti149), (156, ti156), (160, ti160), (161, ti161), (163, ti163), (164, ti164), (165, ti165), (166, ti166), (167, ti167)]
theorem tab_ok : ∀ t i, tlook t tab = some i → TiOk Try.prog t i := by
  refine tab_ok_cons tiok2 ?_
  refine tab_ok_cons tiok3 ?_
  refine tab_ok_cons tiok4 ?_
  refine tab_ok_cons tiok5 ?_
  refine tab_ok_cons tiok6 ?_
  refine tab_ok_cons tiok9 ?_
  refine tab_ok_cons tiok10 ?_
  refine tab_ok_cons tiok11 ?_
  refine tab_ok_cons tiok12 ?_
  refine tab_ok_cons tiok15 ?_
  refine tab_ok_cons tiok16 ?_
  refine tab_ok_cons tiok17 ?_
  refine tab_ok_cons tiok20 ?_
  refine tab_ok_cons tiok21 ?_
  refine tab_ok_cons tiok22 ?_
  refine tab_ok_cons tiok23 ?_
  refine tab_ok_cons tiok24 ?_
  refine tab_ok_cons tiok25 ?_
  refine tab_ok_cons tiok26 ?_
  refine tab_ok_cons tiok27 ?_
  refine tab_ok_cons tiok28 ?_
  refine tab_ok_cons tiok29 ?_
  refine tab_ok_cons tiok31 ?_
  refine tab_ok_cons tiok32 ?_
  refine tab_ok_cons tiok33 ?_
  refine tab_ok_cons tiok34 ?_
  refine tab_ok_cons tiok35 ?_
  refine tab_ok_cons tiok37 ?_
  refine tab_ok_cons tiok38 ?_
  refine tab_ok_cons tiok39 ?_
  refine tab_ok_cons tiok42 ?_
  refine tab_ok_cons tiok43 ?_
  refine tab_ok_cons tiok45 ?_
  refine tab_ok_cons tiok47 ?_
  refine tab_ok_cons tiok48 ?_
  refine tab_ok_cons tiok49 ?_
  refine tab_ok_cons tiok52 ?_
  refine tab_ok_cons tiok53 ?_
  refine tab_ok_cons tiok54 ?_
  refine tab_ok_cons tiok55 ?_
  refine tab_ok_cons tiok66 ?_
  refine tab_ok_cons tiok67 ?_
  refine tab_ok_cons tiok68 ?_
  refine tab_ok_cons tiok76 ?_
  refine tab_ok_cons tiok77 ?_
  refine tab_ok_cons tiok84 ?_
  refine tab_ok_cons tiok85 ?_
  refine tab_ok_cons tiok86 ?_
  refine tab_ok_cons tiok87 ?_
  refine tab_ok_cons tiok89 ?_
  refine tab_ok_cons tiok90 ?_
  refine tab_ok_cons tiok91 ?_
  refine tab_ok_cons tiok92 ?_
  refine tab_ok_cons tiok118 ?_
  refine tab_ok_cons tiok119 ?_
  refine tab_ok_cons tiok120 ?_
  refine tab_ok_cons tiok121 ?_
  refine tab_ok_cons tiok132 ?_
  refine tab_ok_cons tiok136 ?_
  refine tab_ok_cons tiok140 ?_
  refine tab_ok_cons tiok143 ?_
  refine tab_ok_cons tiok146 ?_
  refine tab_ok_cons tiok147 ?_
  refine tab_ok_cons tiok149 ?_
  refine tab_ok_cons tiok156 ?_
  refine tab_ok_cons tiok160 ?_
  refine tab_ok_cons tiok161 ?_
  refine tab_ok_cons tiok163 ?_
  refine tab_ok_cons tiok164 ?_
  refine tab_ok_cons tiok165 ?_
  refine tab_ok_cons tiok166 ?_
  refine tab_ok_cons tiok167 ?_
  exact tab_ok_nil
noncomputable def X : Cx := ⟨Try.prog, tab, tab_ok, by kernel_rfl⟩
end Go.Proofs.Ytmbjknampholjaa
