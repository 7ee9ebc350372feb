/- What the program's types are; closed facts. -/
import Derived.Test.YtaeglabjhpfepaaDoorAwpC
import Derived.Test.YtaeglabjhpfepaaDoorProg
import Derived.KernelRfl
set_option linter.all false
namespace Go.Proofs
open Go.Awp
@[simp] theorem ty1 : ty Tryd.prog 1 = some ⟨1, 8, .fn, [.nilFunc]⟩ := by kernel_rfl
@[simp] theorem ty2 : ty Tryd.prog 2 = some ⟨1, 8, .int .i64, [.int .i64 0]⟩ := by kernel_rfl
@[simp] theorem ty3 : ty Tryd.prog 3 = some ⟨1, 8, .int .i64, [.int .i64 0]⟩ := by kernel_rfl
@[simp] theorem ty4 : ty Tryd.prog 4 = some ⟨1, 1, .bool, [.bool false]⟩ := by kernel_rfl
@[simp] theorem ty5 : ty Tryd.prog 5 = some ⟨1, 1, .int .u8, [.int .u8 0]⟩ := by kernel_rfl
@[simp] theorem ty6 : ty Tryd.prog 6 = some ⟨1, 1, .int .u8, [.int .u8 0]⟩ := by kernel_rfl
@[simp] theorem ty7 : ty Tryd.prog 7 = some ⟨4, 24, .struct [(2, 0), (3, 1), (4, 2), (6, 3)], [.int .i64 0, .int .i64 0, .bool false, .int .u8 0]⟩ := by kernel_rfl
@[simp] theorem ty8 : ty Tryd.prog 8 = some ⟨4, 24, .struct [(2, 0), (3, 1), (4, 2), (6, 3)], [.int .i64 0, .int .i64 0, .bool false, .int .u8 0]⟩ := by kernel_rfl
@[simp] theorem ty9 : ty Tryd.prog 9 = some ⟨1, 16, .str, [.string ⟨#[]⟩]⟩ := by kernel_rfl
@[simp] theorem ty10 : ty Tryd.prog 10 = some ⟨1, 16, .str, [.string ⟨#[]⟩]⟩ := by kernel_rfl
@[simp] theorem ty11 : ty Tryd.prog 11 = some ⟨1, 16, .str, [.string ⟨#[]⟩]⟩ := by kernel_rfl
@[simp] theorem ty12 : ty Tryd.prog 12 = some ⟨1, 8, .int .u64, [.int .u64 0]⟩ := by kernel_rfl
@[simp] theorem ty13 : ty Tryd.prog 13 = some ⟨2, 24, .struct [(9, 0), (12, 1)], [.string ⟨#[]⟩, .int .u64 0]⟩ := by kernel_rfl
@[simp] theorem ty14 : ty Tryd.prog 14 = some ⟨2, 24, .struct [(9, 0), (12, 1)], [.string ⟨#[]⟩, .int .u64 0]⟩ := by kernel_rfl
@[simp] theorem ty15 : ty Tryd.prog 15 = some ⟨1, 8, .ptr 72, [.pointer none]⟩ := by kernel_rfl
@[simp] theorem ty16 : ty Tryd.prog 16 = some ⟨1, 8, .ptr 75, [.pointer none]⟩ := by kernel_rfl
@[simp] theorem ty17 : ty Tryd.prog 17 = some ⟨1, 8, .ptr 84, [.pointer none]⟩ := by kernel_rfl
@[simp] theorem ty18 : ty Tryd.prog 18 = some ⟨1, 8, .struct [(17, 0)], [.pointer none]⟩ := by kernel_rfl
@[simp] theorem ty19 : ty Tryd.prog 19 = some ⟨1, 8, .struct [(17, 0)], [.pointer none]⟩ := by kernel_rfl
@[simp] theorem ty21 : ty Tryd.prog 21 = some ⟨1, 4, .int .i32, [.int .i32 0]⟩ := by kernel_rfl
@[simp] theorem ty22 : ty Tryd.prog 22 = some ⟨2, 16, .struct [(3, 0), (3, 1)], [.int .i64 0, .int .i64 0]⟩ := by kernel_rfl
@[simp] theorem ty23 : ty Tryd.prog 23 = some ⟨2, 16, .struct [(3, 0), (3, 1)], [.int .i64 0, .int .i64 0]⟩ := by kernel_rfl
@[simp] theorem ty24 : ty Tryd.prog 24 = some ⟨1, 8, .fn, [.nilFunc]⟩ := by kernel_rfl
@[simp] theorem ty25 : ty Tryd.prog 25 = some ⟨1, 8, .int .i64, [.int .i64 0]⟩ := by kernel_rfl
@[simp] theorem ty27 : ty Tryd.prog 27 = some ⟨1, 8, .fn, [.nilFunc]⟩ := by kernel_rfl
@[simp] theorem ty29 : ty Tryd.prog 29 = some ⟨1, 8, .fn, [.nilFunc]⟩ := by kernel_rfl
@[simp] theorem ty30 : ty Tryd.prog 30 = some ⟨1, 8, .fn, [.nilFunc]⟩ := by kernel_rfl
@[simp] theorem ty31 : ty Tryd.prog 31 = some ⟨1, 8, .fn, [.nilFunc]⟩ := by kernel_rfl
@[simp] theorem ty33 : ty Tryd.prog 33 = some ⟨1, 8, .fn, [.nilFunc]⟩ := by kernel_rfl
@[simp] theorem ty34 : ty Tryd.prog 34 = some ⟨1, 8, .fn, [.nilFunc]⟩ := by kernel_rfl
@[simp] theorem ty35 : ty Tryd.prog 35 = some ⟨1, 8, .fn, [.nilFunc]⟩ := by kernel_rfl
@[simp] theorem ty36 : ty Tryd.prog 36 = some ⟨1, 8, .fn, [.nilFunc]⟩ := by kernel_rfl
@[simp] theorem ty37 : ty Tryd.prog 37 = some ⟨1, 8, .fn, [.nilFunc]⟩ := by kernel_rfl
@[simp] theorem ty38 : ty Tryd.prog 38 = some ⟨1, 8, .fn, [.nilFunc]⟩ := by kernel_rfl
@[simp] theorem ty40 : ty Tryd.prog 40 = some ⟨1, 8, .fn, [.nilFunc]⟩ := by kernel_rfl
@[simp] theorem ty41 : ty Tryd.prog 41 = some ⟨1, 8, .fn, [.nilFunc]⟩ := by kernel_rfl
@[simp] theorem ty42 : ty Tryd.prog 42 = some ⟨1, 8, .fn, [.nilFunc]⟩ := by kernel_rfl
@[simp] theorem ty43 : ty Tryd.prog 43 = some ⟨1, 8, .fn, [.nilFunc]⟩ := by kernel_rfl
@[simp] theorem ty44 : ty Tryd.prog 44 = some ⟨1, 8, .fn, [.nilFunc]⟩ := by kernel_rfl
@[simp] theorem ty45 : ty Tryd.prog 45 = some ⟨1, 8, .fn, [.nilFunc]⟩ := by kernel_rfl
@[simp] theorem ty46 : ty Tryd.prog 46 = some ⟨1, 24, .slice 3, [.slice none 0 0]⟩ := by kernel_rfl
@[simp] theorem ty47 : ty Tryd.prog 47 = some ⟨1, 8, .fn, [.nilFunc]⟩ := by kernel_rfl
@[simp] theorem ty48 : ty Tryd.prog 48 = some ⟨1, 8, .fn, [.nilFunc]⟩ := by kernel_rfl
@[simp] theorem ty49 : ty Tryd.prog 49 = some ⟨1, 8, .fn, [.nilFunc]⟩ := by kernel_rfl
@[simp] theorem ty50 : ty Tryd.prog 50 = some ⟨1, 8, .fn, [.nilFunc]⟩ := by kernel_rfl
@[simp] theorem ty51 : ty Tryd.prog 51 = some ⟨1, 8, .fn, [.nilFunc]⟩ := by kernel_rfl
@[simp] theorem ty52 : ty Tryd.prog 52 = some ⟨1, 8, .int .u64, [.int .u64 0]⟩ := by kernel_rfl
@[simp] theorem ty53 : ty Tryd.prog 53 = some ⟨24, 24, .array 24 5, [.int .u8 0, .int .u8 0, .int .u8 0, .int .u8 0, .int .u8 0, .int .u8 0, .int .u8 0, .int .u8 0, .int .u8 0, .int .u8 0, .int .u8 0, .int .u8 0, .int .u8 0, .int .u8 0, .int .u8 0, .int .u8 0, .int .u8 0, .int .u8 0, .int .u8 0, .int .u8 0, .int .u8 0, .int .u8 0, .int .u8 0, .int .u8 0]⟩ := by kernel_rfl
@[simp] theorem ty54 : ty Tryd.prog 54 = some ⟨1, 8, .int .u64, [.int .u64 0]⟩ := by kernel_rfl
@[simp] theorem ty55 : ty Tryd.prog 55 = some ⟨1, 8, .fn, [.nilFunc]⟩ := by kernel_rfl
@[simp] theorem ty56 : ty Tryd.prog 56 = some ⟨1, 8, .fn, [.nilFunc]⟩ := by kernel_rfl
@[simp] theorem ty57 : ty Tryd.prog 57 = some ⟨1, 24, .slice 5, [.slice none 0 0]⟩ := by kernel_rfl
@[simp] theorem ty59 : ty Tryd.prog 59 = some ⟨1, 8, .fn, [.nilFunc]⟩ := by kernel_rfl
@[simp] theorem ty60 : ty Tryd.prog 60 = some ⟨1, 4, .int .u32, [.int .u32 0]⟩ := by kernel_rfl
@[simp] theorem ty62 : ty Tryd.prog 62 = some ⟨1, 8, .fn, [.nilFunc]⟩ := by kernel_rfl
@[simp] theorem ty63 : ty Tryd.prog 63 = some ⟨1, 8, .fn, [.nilFunc]⟩ := by kernel_rfl
@[simp] theorem ty64 : ty Tryd.prog 64 = some ⟨20, 160, .array 20 54, [.int .u64 0, .int .u64 0, .int .u64 0, .int .u64 0, .int .u64 0, .int .u64 0, .int .u64 0, .int .u64 0, .int .u64 0, .int .u64 0, .int .u64 0, .int .u64 0, .int .u64 0, .int .u64 0, .int .u64 0, .int .u64 0, .int .u64 0, .int .u64 0, .int .u64 0, .int .u64 0]⟩ := by kernel_rfl
@[simp] theorem ty65 : ty Tryd.prog 65 = some ⟨65, 65, .array 65 5, [.int .u8 0, .int .u8 0, .int .u8 0, .int .u8 0, .int .u8 0, .int .u8 0, .int .u8 0, .int .u8 0, .int .u8 0, .int .u8 0, .int .u8 0, .int .u8 0, .int .u8 0, .int .u8 0, .int .u8 0, .int .u8 0, .int .u8 0, .int .u8 0, .int .u8 0, .int .u8 0, .int .u8 0, .int .u8 0, .int .u8 0, .int .u8 0, .int .u8 0, .int .u8 0, .int .u8 0, .int .u8 0, .int .u8 0, .int .u8 0, .int .u8 0, .int .u8 0, .int .u8 0, .int .u8 0, .int .u8 0, .int .u8 0, .int .u8 0, .int .u8 0, .int .u8 0, .int .u8 0, .int .u8 0, .int .u8 0, .int .u8 0, .int .u8 0, .int .u8 0, .int .u8 0, .int .u8 0, .int .u8 0, .int .u8 0, .int .u8 0, .int .u8 0, .int .u8 0, .int .u8 0, .int .u8 0, .int .u8 0, .int .u8 0, .int .u8 0, .int .u8 0, .int .u8 0, .int .u8 0, .int .u8 0, .int .u8 0, .int .u8 0, .int .u8 0, .int .u8 0]⟩ := by kernel_rfl
@[simp] theorem ty66 : ty Tryd.prog 66 = some ⟨1, 8, .fn, [.nilFunc]⟩ := by kernel_rfl
@[simp] theorem ty67 : ty Tryd.prog 67 = some ⟨1, 8, .fn, [.nilFunc]⟩ := by kernel_rfl
@[simp] theorem ty68 : ty Tryd.prog 68 = some ⟨32, 32, .array 32 5, [.int .u8 0, .int .u8 0, .int .u8 0, .int .u8 0, .int .u8 0, .int .u8 0, .int .u8 0, .int .u8 0, .int .u8 0, .int .u8 0, .int .u8 0, .int .u8 0, .int .u8 0, .int .u8 0, .int .u8 0, .int .u8 0, .int .u8 0, .int .u8 0, .int .u8 0, .int .u8 0, .int .u8 0, .int .u8 0, .int .u8 0, .int .u8 0, .int .u8 0, .int .u8 0, .int .u8 0, .int .u8 0, .int .u8 0, .int .u8 0, .int .u8 0, .int .u8 0]⟩ := by kernel_rfl
@[simp] theorem ty69 : ty Tryd.prog 69 = some ⟨64, 64, .array 64 5, [.int .u8 0, .int .u8 0, .int .u8 0, .int .u8 0, .int .u8 0, .int .u8 0, .int .u8 0, .int .u8 0, .int .u8 0, .int .u8 0, .int .u8 0, .int .u8 0, .int .u8 0, .int .u8 0, .int .u8 0, .int .u8 0, .int .u8 0, .int .u8 0, .int .u8 0, .int .u8 0, .int .u8 0, .int .u8 0, .int .u8 0, .int .u8 0, .int .u8 0, .int .u8 0, .int .u8 0, .int .u8 0, .int .u8 0, .int .u8 0, .int .u8 0, .int .u8 0, .int .u8 0, .int .u8 0, .int .u8 0, .int .u8 0, .int .u8 0, .int .u8 0, .int .u8 0, .int .u8 0, .int .u8 0, .int .u8 0, .int .u8 0, .int .u8 0, .int .u8 0, .int .u8 0, .int .u8 0, .int .u8 0, .int .u8 0, .int .u8 0, .int .u8 0, .int .u8 0, .int .u8 0, .int .u8 0, .int .u8 0, .int .u8 0, .int .u8 0, .int .u8 0, .int .u8 0, .int .u8 0, .int .u8 0, .int .u8 0, .int .u8 0, .int .u8 0]⟩ := by kernel_rfl
@[simp] theorem ty70 : ty Tryd.prog 70 = some ⟨1, 8, .fn, [.nilFunc]⟩ := by kernel_rfl
@[simp] theorem ty71 : ty Tryd.prog 71 = some ⟨4, 40, .struct [(17, 0), (17, 1), (17, 2), (9, 3)], [.pointer none, .pointer none, .pointer none, .string ⟨#[]⟩]⟩ := by kernel_rfl
@[simp] theorem ty72 : ty Tryd.prog 72 = some ⟨4, 40, .struct [(17, 0), (17, 1), (17, 2), (9, 3)], [.pointer none, .pointer none, .pointer none, .string ⟨#[]⟩]⟩ := by kernel_rfl
@[simp] theorem ty73 : ty Tryd.prog 73 = some ⟨0, 0, .array 0 16, []⟩ := by kernel_rfl
@[simp] theorem ty74 : ty Tryd.prog 74 = some ⟨0, 0, .struct [(73, 0)], []⟩ := by kernel_rfl
@[simp] theorem ty75 : ty Tryd.prog 75 = some ⟨0, 0, .struct [(73, 0)], []⟩ := by kernel_rfl
@[simp] theorem ty76 : ty Tryd.prog 76 = some ⟨1, 8, .fn, [.nilFunc]⟩ := by kernel_rfl
@[simp] theorem ty77 : ty Tryd.prog 77 = some ⟨1, 1, .int .u8, [.int .u8 0]⟩ := by kernel_rfl
@[simp] theorem ty78 : ty Tryd.prog 78 = some ⟨1, 1, .int .u8, [.int .u8 0]⟩ := by kernel_rfl
@[simp] theorem ty79 : ty Tryd.prog 79 = some ⟨1, 8, .fn, [.nilFunc]⟩ := by kernel_rfl
@[simp] theorem ty80 : ty Tryd.prog 80 = some ⟨1, 8, .ptr 5, [.pointer none]⟩ := by kernel_rfl
@[simp] theorem ty81 : ty Tryd.prog 81 = some ⟨1, 4, .int .i32, [.int .i32 0]⟩ := by kernel_rfl
@[simp] theorem ty82 : ty Tryd.prog 82 = some ⟨1, 4, .int .i32, [.int .i32 0]⟩ := by kernel_rfl
@[simp] theorem ty83 : ty Tryd.prog 83 = some ⟨11, 48, .struct [(12, 0), (12, 1), (60, 2), (77, 3), (5, 4), (5, 5), (78, 6), (79, 7), (80, 8), (81, 9), (82, 10)], [.int .u64 0, .int .u64 0, .int .u32 0, .int .u8 0, .int .u8 0, .int .u8 0, .int .u8 0, .nilFunc, .pointer none, .int .i32 0, .int .i32 0]⟩ := by kernel_rfl
@[simp] theorem ty84 : ty Tryd.prog 84 = some ⟨11, 48, .struct [(12, 0), (12, 1), (60, 2), (77, 3), (5, 4), (5, 5), (78, 6), (79, 7), (80, 8), (81, 9), (82, 10)], [.int .u64 0, .int .u64 0, .int .u32 0, .int .u8 0, .int .u8 0, .int .u8 0, .int .u8 0, .nilFunc, .pointer none, .int .i32 0, .int .i32 0]⟩ := by kernel_rfl
end Go.Proofs
