/- Contracts of the program's functions, each against a plain function over lists and numbers (it answers what that one answers, for arguments of at most 2^40 elements where a lemma says so), and plain facts about these. -/
import Derived.Test.YtokgokbgidgfeaaAwpD
import Derived.Test.YtokgokbgidgfeaaProg
import Derived.KernelRfl
import Derived.Test.YtokgokbgidgfeaaAwpC
import Derived.Test.YtokgokbgidgfeaaRows
set_option linter.all false
namespace Go.Proofs
open Go.Awp
@[simp] theorem ty1 : ty Try.prog 1 = some ⟨1, 8, .fn, [.nilFunc]⟩ := by kernel_rfl
@[simp] theorem ty2 : ty Try.prog 2 = some ⟨1, 8, .int .i64, [.int .i64 0]⟩ := by kernel_rfl
@[simp] theorem ty3 : ty Try.prog 3 = some ⟨1, 8, .int .i64, [.int .i64 0]⟩ := by kernel_rfl
@[simp] theorem ty4 : ty Try.prog 4 = some ⟨1, 1, .bool, [.bool false]⟩ := by kernel_rfl
@[simp] theorem ty5 : ty Try.prog 5 = some ⟨1, 1, .int .u8, [.int .u8 0]⟩ := by kernel_rfl
@[simp] theorem ty6 : ty Try.prog 6 = some ⟨1, 1, .int .u8, [.int .u8 0]⟩ := by kernel_rfl
@[simp] theorem ty7 : ty Try.prog 7 = some ⟨4, 24, .struct [(2, 0), (3, 1), (4, 2), (6, 3)], [.int .i64 0, .int .i64 0, .bool false, .int .u8 0]⟩ := by kernel_rfl
@[simp] theorem ty8 : ty Try.prog 8 = some ⟨4, 24, .struct [(2, 0), (3, 1), (4, 2), (6, 3)], [.int .i64 0, .int .i64 0, .bool false, .int .u8 0]⟩ := by kernel_rfl
@[simp] theorem ty9 : ty Try.prog 9 = some ⟨1, 16, .str, [.string ⟨#[]⟩]⟩ := by kernel_rfl
@[simp] theorem ty10 : ty Try.prog 10 = some ⟨1, 16, .str, [.string ⟨#[]⟩]⟩ := by kernel_rfl
@[simp] theorem ty11 : ty Try.prog 11 = some ⟨1, 16, .str, [.string ⟨#[]⟩]⟩ := by kernel_rfl
@[simp] theorem ty12 : ty Try.prog 12 = some ⟨1, 8, .int .u64, [.int .u64 0]⟩ := by kernel_rfl
@[simp] theorem ty13 : ty Try.prog 13 = some ⟨2, 24, .struct [(9, 0), (12, 1)], [.string ⟨#[]⟩, .int .u64 0]⟩ := by kernel_rfl
@[simp] theorem ty14 : ty Try.prog 14 = some ⟨2, 24, .struct [(9, 0), (12, 1)], [.string ⟨#[]⟩, .int .u64 0]⟩ := by kernel_rfl
@[simp] theorem ty15 : ty Try.prog 15 = some ⟨1, 8, .ptr 204, [.pointer none]⟩ := by kernel_rfl
@[simp] theorem ty16 : ty Try.prog 16 = some ⟨1, 8, .ptr 207, [.pointer none]⟩ := by kernel_rfl
@[simp] theorem ty17 : ty Try.prog 17 = some ⟨1, 8, .ptr 216, [.pointer none]⟩ := by kernel_rfl
@[simp] theorem ty18 : ty Try.prog 18 = some ⟨1, 8, .struct [(17, 0)], [.pointer none]⟩ := by kernel_rfl
@[simp] theorem ty19 : ty Try.prog 19 = some ⟨1, 8, .struct [(17, 0)], [.pointer none]⟩ := by kernel_rfl
@[simp] theorem ty21 : ty Try.prog 21 = some ⟨1, 4, .int .i32, [.int .i32 0]⟩ := by kernel_rfl
@[simp] theorem ty22 : ty Try.prog 22 = some ⟨1, 24, .slice 3, [.slice none 0 0]⟩ := by kernel_rfl
@[simp] theorem ty23 : ty Try.prog 23 = some ⟨1, 24, .slice 29, [.slice none 0 0]⟩ := by kernel_rfl
@[simp] theorem ty24 : ty Try.prog 24 = some ⟨1, 24, .slice 76, [.slice none 0 0]⟩ := by kernel_rfl
@[simp] theorem ty25 : ty Try.prog 25 = some ⟨3, 72, .struct [(22, 0), (23, 1), (24, 2)], [.slice none 0 0, .slice none 0 0, .slice none 0 0]⟩ := by kernel_rfl
@[simp] theorem ty26 : ty Try.prog 26 = some ⟨3, 72, .struct [(22, 0), (23, 1), (24, 2)], [.slice none 0 0, .slice none 0 0, .slice none 0 0]⟩ := by kernel_rfl
@[simp] theorem ty27 : ty Try.prog 27 = some ⟨2, 16, .struct [(3, 0), (3, 1)], [.int .i64 0, .int .i64 0]⟩ := by kernel_rfl
@[simp] theorem ty28 : ty Try.prog 28 = some ⟨2, 16, .struct [(3, 0), (3, 1)], [.int .i64 0, .int .i64 0]⟩ := by kernel_rfl
@[simp] theorem ty29 : ty Try.prog 29 = some ⟨1, 24, .slice 5, [.slice none 0 0]⟩ := by kernel_rfl
@[simp] theorem ty30 : ty Try.prog 30 = some ⟨7, 80, .struct [(3, 0), (28, 1), (3, 3), (3, 4), (29, 5), (9, 6)], [.int .i64 0, .int .i64 0, .int .i64 0, .int .i64 0, .int .i64 0, .slice none 0 0, .string ⟨#[]⟩]⟩ := by kernel_rfl
@[simp] theorem ty31 : ty Try.prog 31 = some ⟨7, 80, .struct [(3, 0), (28, 1), (3, 3), (3, 4), (29, 5), (9, 6)], [.int .i64 0, .int .i64 0, .int .i64 0, .int .i64 0, .int .i64 0, .slice none 0 0, .string ⟨#[]⟩]⟩ := by kernel_rfl
@[simp] theorem ty32 : ty Try.prog 32 = some ⟨1, 8, .fn, [.nilFunc]⟩ := by kernel_rfl
@[simp] theorem ty33 : ty Try.prog 33 = some ⟨1, 8, .fn, [.nilFunc]⟩ := by kernel_rfl
@[simp] theorem ty34 : ty Try.prog 34 = some ⟨1, 8, .fn, [.nilFunc]⟩ := by kernel_rfl
@[simp] theorem ty35 : ty Try.prog 35 = some ⟨1, 8, .fn, [.nilFunc]⟩ := by kernel_rfl
@[simp] theorem ty36 : ty Try.prog 36 = some ⟨1, 8, .fn, [.nilFunc]⟩ := by kernel_rfl
@[simp] theorem ty37 : ty Try.prog 37 = some ⟨3, 40, .struct [(28, 0), (29, 2)], [.int .i64 0, .int .i64 0, .slice none 0 0]⟩ := by kernel_rfl
@[simp] theorem ty38 : ty Try.prog 38 = some ⟨3, 40, .struct [(28, 0), (29, 2)], [.int .i64 0, .int .i64 0, .slice none 0 0]⟩ := by kernel_rfl
@[simp] theorem ty39 : ty Try.prog 39 = some ⟨1, 8, .int .i64, [.int .i64 0]⟩ := by kernel_rfl
@[simp] theorem ty41 : ty Try.prog 41 = some ⟨1, 8, .fn, [.nilFunc]⟩ := by kernel_rfl
@[simp] theorem ty42 : ty Try.prog 42 = some ⟨1, 8, .fn, [.nilFunc]⟩ := by kernel_rfl
@[simp] theorem ty43 : ty Try.prog 43 = some ⟨1, 8, .fn, [.nilFunc]⟩ := by kernel_rfl
@[simp] theorem ty44 : ty Try.prog 44 = some ⟨1, 8, .fn, [.nilFunc]⟩ := by kernel_rfl
@[simp] theorem ty45 : ty Try.prog 45 = some ⟨1, 8, .fn, [.nilFunc]⟩ := by kernel_rfl
@[simp] theorem ty46 : ty Try.prog 46 = some ⟨1, 8, .fn, [.nilFunc]⟩ := by kernel_rfl
@[simp] theorem ty47 : ty Try.prog 47 = some ⟨1, 8, .fn, [.nilFunc]⟩ := by kernel_rfl
@[simp] theorem ty48 : ty Try.prog 48 = some ⟨4, 32, .struct [(3, 0), (3, 1), (3, 2), (3, 3)], [.int .i64 0, .int .i64 0, .int .i64 0, .int .i64 0]⟩ := by kernel_rfl
@[simp] theorem ty49 : ty Try.prog 49 = some ⟨4, 32, .struct [(3, 0), (3, 1), (3, 2), (3, 3)], [.int .i64 0, .int .i64 0, .int .i64 0, .int .i64 0]⟩ := by kernel_rfl
@[simp] theorem ty50 : ty Try.prog 50 = some ⟨1, 24, .slice 60, [.slice none 0 0]⟩ := by kernel_rfl
@[simp] theorem ty51 : ty Try.prog 51 = some ⟨9, 120, .struct [(49, 0), (3, 4), (3, 5), (50, 6), (24, 7), (23, 8)], [.int .i64 0, .int .i64 0, .int .i64 0, .int .i64 0, .int .i64 0, .int .i64 0, .slice none 0 0, .slice none 0 0, .slice none 0 0]⟩ := by kernel_rfl
@[simp] theorem ty52 : ty Try.prog 52 = some ⟨9, 120, .struct [(49, 0), (3, 4), (3, 5), (50, 6), (24, 7), (23, 8)], [.int .i64 0, .int .i64 0, .int .i64 0, .int .i64 0, .int .i64 0, .int .i64 0, .slice none 0 0, .slice none 0 0, .slice none 0 0]⟩ := by kernel_rfl
@[simp] theorem ty53 : ty Try.prog 53 = some ⟨1, 8, .fn, [.nilFunc]⟩ := by kernel_rfl
@[simp] theorem ty54 : ty Try.prog 54 = some ⟨1, 8, .fn, [.nilFunc]⟩ := by kernel_rfl
@[simp] theorem ty55 : ty Try.prog 55 = some ⟨1, 8, .fn, [.nilFunc]⟩ := by kernel_rfl
@[simp] theorem ty57 : ty Try.prog 57 = some ⟨1, 8, .fn, [.nilFunc]⟩ := by kernel_rfl
@[simp] theorem ty58 : ty Try.prog 58 = some ⟨1, 8, .fn, [.nilFunc]⟩ := by kernel_rfl
@[simp] theorem ty59 : ty Try.prog 59 = some ⟨5, 32, .struct [(3, 0), (4, 1), (4, 2), (3, 3), (3, 4)], [.int .i64 0, .bool false, .bool false, .int .i64 0, .int .i64 0]⟩ := by kernel_rfl
@[simp] theorem ty60 : ty Try.prog 60 = some ⟨5, 32, .struct [(3, 0), (4, 1), (4, 2), (3, 3), (3, 4)], [.int .i64 0, .bool false, .bool false, .int .i64 0, .int .i64 0]⟩ := by kernel_rfl
@[simp] theorem ty61 : ty Try.prog 61 = some ⟨1, 8, .fn, [.nilFunc]⟩ := by kernel_rfl
@[simp] theorem ty63 : ty Try.prog 63 = some ⟨1, 8, .fn, [.nilFunc]⟩ := by kernel_rfl
@[simp] theorem ty65 : ty Try.prog 65 = some ⟨1, 8, .fn, [.nilFunc]⟩ := by kernel_rfl
@[simp] theorem ty66 : ty Try.prog 66 = some ⟨1, 8, .fn, [.nilFunc]⟩ := by kernel_rfl
@[simp] theorem ty67 : ty Try.prog 67 = some ⟨1, 8, .fn, [.nilFunc]⟩ := by kernel_rfl
@[simp] theorem ty68 : ty Try.prog 68 = some ⟨1, 8, .fn, [.nilFunc]⟩ := by kernel_rfl
@[simp] theorem ty69 : ty Try.prog 69 = some ⟨1, 8, .fn, [.nilFunc]⟩ := by kernel_rfl
@[simp] theorem ty70 : ty Try.prog 70 = some ⟨1, 8, .fn, [.nilFunc]⟩ := by kernel_rfl
@[simp] theorem ty71 : ty Try.prog 71 = some ⟨1, 8, .fn, [.nilFunc]⟩ := by kernel_rfl
@[simp] theorem ty72 : ty Try.prog 72 = some ⟨1, 8, .fn, [.nilFunc]⟩ := by kernel_rfl
@[simp] theorem ty73 : ty Try.prog 73 = some ⟨1, 8, .fn, [.nilFunc]⟩ := by kernel_rfl
@[simp] theorem ty74 : ty Try.prog 74 = some ⟨1, 8, .fn, [.nilFunc]⟩ := by kernel_rfl
@[simp] theorem ty75 : ty Try.prog 75 = some ⟨3, 32, .struct [(9, 0), (28, 1)], [.string ⟨#[]⟩, .int .i64 0, .int .i64 0]⟩ := by kernel_rfl
@[simp] theorem ty76 : ty Try.prog 76 = some ⟨3, 32, .struct [(9, 0), (28, 1)], [.string ⟨#[]⟩, .int .i64 0, .int .i64 0]⟩ := by kernel_rfl
@[simp] theorem ty77 : ty Try.prog 77 = some ⟨1, 8, .ptr 79, [.pointer none]⟩ := by kernel_rfl
@[simp] theorem ty78 : ty Try.prog 78 = some ⟨6, 112, .struct [(26, 0), (38, 3)], [.slice none 0 0, .slice none 0 0, .slice none 0 0, .int .i64 0, .int .i64 0, .slice none 0 0]⟩ := by kernel_rfl
@[simp] theorem ty79 : ty Try.prog 79 = some ⟨6, 112, .struct [(26, 0), (38, 3)], [.slice none 0 0, .slice none 0 0, .slice none 0 0, .int .i64 0, .int .i64 0, .slice none 0 0]⟩ := by kernel_rfl
@[simp] theorem ty80 : ty Try.prog 80 = some ⟨1, 8, .fn, [.nilFunc]⟩ := by kernel_rfl
@[simp] theorem ty81 : ty Try.prog 81 = some ⟨1, 8, .fn, [.nilFunc]⟩ := by kernel_rfl
@[simp] theorem ty82 : ty Try.prog 82 = some ⟨1, 8, .fn, [.nilFunc]⟩ := by kernel_rfl
@[simp] theorem ty83 : ty Try.prog 83 = some ⟨1, 8, .fn, [.nilFunc]⟩ := by kernel_rfl
@[simp] theorem ty84 : ty Try.prog 84 = some ⟨1, 8, .fn, [.nilFunc]⟩ := by kernel_rfl
@[simp] theorem ty85 : ty Try.prog 85 = some ⟨1, 8, .fn, [.nilFunc]⟩ := by kernel_rfl
@[simp] theorem ty86 : ty Try.prog 86 = some ⟨1, 8, .fn, [.nilFunc]⟩ := by kernel_rfl
@[simp] theorem ty87 : ty Try.prog 87 = some ⟨1, 8, .fn, [.nilFunc]⟩ := by kernel_rfl
@[simp] theorem ty88 : ty Try.prog 88 = some ⟨1, 8, .fn, [.nilFunc]⟩ := by kernel_rfl
@[simp] theorem ty89 : ty Try.prog 89 = some ⟨1, 8, .fn, [.nilFunc]⟩ := by kernel_rfl
@[simp] theorem ty90 : ty Try.prog 90 = some ⟨1, 8, .fn, [.nilFunc]⟩ := by kernel_rfl
@[simp] theorem ty91 : ty Try.prog 91 = some ⟨1, 8, .fn, [.nilFunc]⟩ := by kernel_rfl
@[simp] theorem ty92 : ty Try.prog 92 = some ⟨1, 24, .slice 98, [.slice none 0 0]⟩ := by kernel_rfl
@[simp] theorem ty93 : ty Try.prog 93 = some ⟨1, 24, .slice 96, [.slice none 0 0]⟩ := by kernel_rfl
@[simp] theorem ty94 : ty Try.prog 94 = some ⟨1, 8, .fn, [.nilFunc]⟩ := by kernel_rfl
@[simp] theorem ty95 : ty Try.prog 95 = some ⟨3, 24, .struct [(3, 0), (3, 1), (3, 2)], [.int .i64 0, .int .i64 0, .int .i64 0]⟩ := by kernel_rfl
@[simp] theorem ty96 : ty Try.prog 96 = some ⟨3, 24, .struct [(3, 0), (3, 1), (3, 2)], [.int .i64 0, .int .i64 0, .int .i64 0]⟩ := by kernel_rfl
@[simp] theorem ty97 : ty Try.prog 97 = some ⟨2, 16, .struct [(3, 0), (3, 1)], [.int .i64 0, .int .i64 0]⟩ := by kernel_rfl
@[simp] theorem ty98 : ty Try.prog 98 = some ⟨2, 16, .struct [(3, 0), (3, 1)], [.int .i64 0, .int .i64 0]⟩ := by kernel_rfl
@[simp] theorem ty99 : ty Try.prog 99 = some ⟨1, 24, .slice 141, [.slice none 0 0]⟩ := by kernel_rfl
@[simp] theorem ty101 : ty Try.prog 101 = some ⟨1, 8, .fn, [.nilFunc]⟩ := by kernel_rfl
@[simp] theorem ty103 : ty Try.prog 103 = some ⟨1, 8, .fn, [.nilFunc]⟩ := by kernel_rfl
@[simp] theorem ty104 : ty Try.prog 104 = some ⟨1, 8, .fn, [.nilFunc]⟩ := by kernel_rfl
@[simp] theorem ty105 : ty Try.prog 105 = some ⟨1, 8, .fn, [.nilFunc]⟩ := by kernel_rfl
@[simp] theorem ty106 : ty Try.prog 106 = some ⟨1, 8, .fn, [.nilFunc]⟩ := by kernel_rfl
@[simp] theorem ty107 : ty Try.prog 107 = some ⟨1, 8, .fn, [.nilFunc]⟩ := by kernel_rfl
@[simp] theorem ty108 : ty Try.prog 108 = some ⟨1, 8, .fn, [.nilFunc]⟩ := by kernel_rfl
@[simp] theorem ty110 : ty Try.prog 110 = some ⟨1, 8, .fn, [.nilFunc]⟩ := by kernel_rfl
@[simp] theorem ty112 : ty Try.prog 112 = some ⟨1, 8, .fn, [.nilFunc]⟩ := by kernel_rfl
@[simp] theorem ty113 : ty Try.prog 113 = some ⟨1, 8, .fn, [.nilFunc]⟩ := by kernel_rfl
@[simp] theorem ty114 : ty Try.prog 114 = some ⟨1, 8, .fn, [.nilFunc]⟩ := by kernel_rfl
@[simp] theorem ty115 : ty Try.prog 115 = some ⟨1, 8, .fn, [.nilFunc]⟩ := by kernel_rfl
@[simp] theorem ty116 : ty Try.prog 116 = some ⟨1, 8, .fn, [.nilFunc]⟩ := by kernel_rfl
@[simp] theorem ty117 : ty Try.prog 117 = some ⟨1, 8, .fn, [.nilFunc]⟩ := by kernel_rfl
@[simp] theorem ty119 : ty Try.prog 119 = some ⟨1, 8, .fn, [.nilFunc]⟩ := by kernel_rfl
@[simp] theorem ty120 : ty Try.prog 120 = some ⟨1, 8, .fn, [.nilFunc]⟩ := by kernel_rfl
@[simp] theorem ty121 : ty Try.prog 121 = some ⟨1, 8, .fn, [.nilFunc]⟩ := by kernel_rfl
@[simp] theorem ty123 : ty Try.prog 123 = some ⟨1, 8, .fn, [.nilFunc]⟩ := by kernel_rfl
@[simp] theorem ty125 : ty Try.prog 125 = some ⟨1, 8, .fn, [.nilFunc]⟩ := by kernel_rfl
@[simp] theorem ty126 : ty Try.prog 126 = some ⟨1, 8, .fn, [.nilFunc]⟩ := by kernel_rfl
@[simp] theorem ty128 : ty Try.prog 128 = some ⟨1, 8, .fn, [.nilFunc]⟩ := by kernel_rfl
@[simp] theorem ty129 : ty Try.prog 129 = some ⟨1, 8, .fn, [.nilFunc]⟩ := by kernel_rfl
@[simp] theorem ty130 : ty Try.prog 130 = some ⟨1, 8, .fn, [.nilFunc]⟩ := by kernel_rfl
@[simp] theorem ty131 : ty Try.prog 131 = some ⟨1, 8, .fn, [.nilFunc]⟩ := by kernel_rfl
@[simp] theorem ty132 : ty Try.prog 132 = some ⟨1, 8, .fn, [.nilFunc]⟩ := by kernel_rfl
@[simp] theorem ty133 : ty Try.prog 133 = some ⟨1, 8, .fn, [.nilFunc]⟩ := by kernel_rfl
@[simp] theorem ty134 : ty Try.prog 134 = some ⟨1, 8, .fn, [.nilFunc]⟩ := by kernel_rfl
@[simp] theorem ty136 : ty Try.prog 136 = some ⟨1, 8, .fn, [.nilFunc]⟩ := by kernel_rfl
@[simp] theorem ty137 : ty Try.prog 137 = some ⟨1, 8, .fn, [.nilFunc]⟩ := by kernel_rfl
@[simp] theorem ty138 : ty Try.prog 138 = some ⟨1, 8, .fn, [.nilFunc]⟩ := by kernel_rfl
@[simp] theorem ty139 : ty Try.prog 139 = some ⟨1, 8, .fn, [.nilFunc]⟩ := by kernel_rfl
@[simp] theorem ty140 : ty Try.prog 140 = some ⟨2, 16, .struct [(3, 0), (3, 1)], [.int .i64 0, .int .i64 0]⟩ := by kernel_rfl
@[simp] theorem ty141 : ty Try.prog 141 = some ⟨2, 16, .struct [(3, 0), (3, 1)], [.int .i64 0, .int .i64 0]⟩ := by kernel_rfl
@[simp] theorem ty142 : ty Try.prog 142 = some ⟨1, 8, .ptr 148, [.pointer none]⟩ := by kernel_rfl
@[simp] theorem ty144 : ty Try.prog 144 = some ⟨1, 8, .fn, [.nilFunc]⟩ := by kernel_rfl
@[simp] theorem ty145 : ty Try.prog 145 = some ⟨1, 8, .int .u64, [.int .u64 0]⟩ := by kernel_rfl
@[simp] theorem ty146 : ty Try.prog 146 = some ⟨64, 512, .array 64 145, [.int .u64 0, .int .u64 0, .int .u64 0, .int .u64 0, .int .u64 0, .int .u64 0, .int .u64 0, .int .u64 0, .int .u64 0, .int .u64 0, .int .u64 0, .int .u64 0, .int .u64 0, .int .u64 0, .int .u64 0, .int .u64 0, .int .u64 0, .int .u64 0, .int .u64 0, .int .u64 0, .int .u64 0, .int .u64 0, .int .u64 0, .int .u64 0, .int .u64 0, .int .u64 0, .int .u64 0, .int .u64 0, .int .u64 0, .int .u64 0, .int .u64 0, .int .u64 0, .int .u64 0, .int .u64 0, .int .u64 0, .int .u64 0, .int .u64 0, .int .u64 0, .int .u64 0, .int .u64 0, .int .u64 0, .int .u64 0, .int .u64 0, .int .u64 0, .int .u64 0, .int .u64 0, .int .u64 0, .int .u64 0, .int .u64 0, .int .u64 0, .int .u64 0, .int .u64 0, .int .u64 0, .int .u64 0, .int .u64 0, .int .u64 0, .int .u64 0, .int .u64 0, .int .u64 0, .int .u64 0, .int .u64 0, .int .u64 0, .int .u64 0, .int .u64 0]⟩ := by kernel_rfl
@[simp] theorem ty147 : ty Try.prog 147 = some ⟨65, 536, .struct [(22, 0), (146, 1)], [.slice none 0 0, .int .u64 0, .int .u64 0, .int .u64 0, .int .u64 0, .int .u64 0, .int .u64 0, .int .u64 0, .int .u64 0, .int .u64 0, .int .u64 0, .int .u64 0, .int .u64 0, .int .u64 0, .int .u64 0, .int .u64 0, .int .u64 0, .int .u64 0, .int .u64 0, .int .u64 0, .int .u64 0, .int .u64 0, .int .u64 0, .int .u64 0, .int .u64 0, .int .u64 0, .int .u64 0, .int .u64 0, .int .u64 0, .int .u64 0, .int .u64 0, .int .u64 0, .int .u64 0, .int .u64 0, .int .u64 0, .int .u64 0, .int .u64 0, .int .u64 0, .int .u64 0, .int .u64 0, .int .u64 0, .int .u64 0, .int .u64 0, .int .u64 0, .int .u64 0, .int .u64 0, .int .u64 0, .int .u64 0, .int .u64 0, .int .u64 0, .int .u64 0, .int .u64 0, .int .u64 0, .int .u64 0, .int .u64 0, .int .u64 0, .int .u64 0, .int .u64 0, .int .u64 0, .int .u64 0, .int .u64 0, .int .u64 0, .int .u64 0, .int .u64 0, .int .u64 0]⟩ := by kernel_rfl
@[simp] theorem ty148 : ty Try.prog 148 = some ⟨65, 536, .struct [(22, 0), (146, 1)], [.slice none 0 0, .int .u64 0, .int .u64 0, .int .u64 0, .int .u64 0, .int .u64 0, .int .u64 0, .int .u64 0, .int .u64 0, .int .u64 0, .int .u64 0, .int .u64 0, .int .u64 0, .int .u64 0, .int .u64 0, .int .u64 0, .int .u64 0, .int .u64 0, .int .u64 0, .int .u64 0, .int .u64 0, .int .u64 0, .int .u64 0, .int .u64 0, .int .u64 0, .int .u64 0, .int .u64 0, .int .u64 0, .int .u64 0, .int .u64 0, .int .u64 0, .int .u64 0, .int .u64 0, .int .u64 0, .int .u64 0, .int .u64 0, .int .u64 0, .int .u64 0, .int .u64 0, .int .u64 0, .int .u64 0, .int .u64 0, .int .u64 0, .int .u64 0, .int .u64 0, .int .u64 0, .int .u64 0, .int .u64 0, .int .u64 0, .int .u64 0, .int .u64 0, .int .u64 0, .int .u64 0, .int .u64 0, .int .u64 0, .int .u64 0, .int .u64 0, .int .u64 0, .int .u64 0, .int .u64 0, .int .u64 0, .int .u64 0, .int .u64 0, .int .u64 0, .int .u64 0]⟩ := by kernel_rfl
@[simp] theorem ty149 : ty Try.prog 149 = some ⟨1, 8, .fn, [.nilFunc]⟩ := by kernel_rfl
@[simp] theorem ty150 : ty Try.prog 150 = some ⟨1, 8, .fn, [.nilFunc]⟩ := by kernel_rfl
@[simp] theorem ty151 : ty Try.prog 151 = some ⟨1, 8, .fn, [.nilFunc]⟩ := by kernel_rfl
@[simp] theorem ty152 : ty Try.prog 152 = some ⟨1, 8, .fn, [.nilFunc]⟩ := by kernel_rfl
@[simp] theorem ty153 : ty Try.prog 153 = some ⟨1, 8, .fn, [.nilFunc]⟩ := by kernel_rfl
@[simp] theorem ty154 : ty Try.prog 154 = some ⟨1, 8, .fn, [.nilFunc]⟩ := by kernel_rfl
@[simp] theorem ty155 : ty Try.prog 155 = some ⟨1, 8, .fn, [.nilFunc]⟩ := by kernel_rfl
@[simp] theorem ty156 : ty Try.prog 156 = some ⟨1, 8, .fn, [.nilFunc]⟩ := by kernel_rfl
@[simp] theorem ty157 : ty Try.prog 157 = some ⟨1, 8, .fn, [.nilFunc]⟩ := by kernel_rfl
@[simp] theorem ty158 : ty Try.prog 158 = some ⟨1, 8, .fn, [.nilFunc]⟩ := by kernel_rfl
@[simp] theorem ty159 : ty Try.prog 159 = some ⟨1, 8, .fn, [.nilFunc]⟩ := by kernel_rfl
@[simp] theorem ty161 : ty Try.prog 161 = some ⟨1, 8, .fn, [.nilFunc]⟩ := by kernel_rfl
@[simp] theorem ty162 : ty Try.prog 162 = some ⟨1, 8, .fn, [.nilFunc]⟩ := by kernel_rfl
@[simp] theorem ty163 : ty Try.prog 163 = some ⟨1, 8, .fn, [.nilFunc]⟩ := by kernel_rfl
@[simp] theorem ty164 : ty Try.prog 164 = some ⟨1, 8, .fn, [.nilFunc]⟩ := by kernel_rfl
@[simp] theorem ty165 : ty Try.prog 165 = some ⟨3, 24, .struct [(3, 0), (3, 1), (3, 2)], [.int .i64 0, .int .i64 0, .int .i64 0]⟩ := by kernel_rfl
@[simp] theorem ty166 : ty Try.prog 166 = some ⟨3, 24, .struct [(3, 0), (3, 1), (3, 2)], [.int .i64 0, .int .i64 0, .int .i64 0]⟩ := by kernel_rfl
@[simp] theorem ty167 : ty Try.prog 167 = some ⟨9, 72, .struct [(166, 0), (3, 3), (3, 4), (3, 5), (3, 6), (3, 7), (3, 8)], [.int .i64 0, .int .i64 0, .int .i64 0, .int .i64 0, .int .i64 0, .int .i64 0, .int .i64 0, .int .i64 0, .int .i64 0]⟩ := by kernel_rfl
@[simp] theorem ty168 : ty Try.prog 168 = some ⟨9, 72, .struct [(166, 0), (3, 3), (3, 4), (3, 5), (3, 6), (3, 7), (3, 8)], [.int .i64 0, .int .i64 0, .int .i64 0, .int .i64 0, .int .i64 0, .int .i64 0, .int .i64 0, .int .i64 0, .int .i64 0]⟩ := by kernel_rfl
@[simp] theorem ty170 : ty Try.prog 170 = some ⟨1, 8, .fn, [.nilFunc]⟩ := by kernel_rfl
@[simp] theorem ty171 : ty Try.prog 171 = some ⟨1, 8, .fn, [.nilFunc]⟩ := by kernel_rfl
@[simp] theorem ty172 : ty Try.prog 172 = some ⟨1, 8, .fn, [.nilFunc]⟩ := by kernel_rfl
@[simp] theorem ty173 : ty Try.prog 173 = some ⟨1, 8, .fn, [.nilFunc]⟩ := by kernel_rfl
@[simp] theorem ty174 : ty Try.prog 174 = some ⟨1, 8, .fn, [.nilFunc]⟩ := by kernel_rfl
@[simp] theorem ty175 : ty Try.prog 175 = some ⟨1, 8, .fn, [.nilFunc]⟩ := by kernel_rfl
@[simp] theorem ty176 : ty Try.prog 176 = some ⟨5, 40, .struct [(3, 0), (3, 1), (4, 2), (3, 3), (3, 4)], [.int .i64 0, .int .i64 0, .bool false, .int .i64 0, .int .i64 0]⟩ := by kernel_rfl
@[simp] theorem ty177 : ty Try.prog 177 = some ⟨5, 40, .struct [(3, 0), (3, 1), (4, 2), (3, 3), (3, 4)], [.int .i64 0, .int .i64 0, .bool false, .int .i64 0, .int .i64 0]⟩ := by kernel_rfl
@[simp] theorem ty178 : ty Try.prog 178 = some ⟨1, 8, .fn, [.nilFunc]⟩ := by kernel_rfl
@[simp] theorem ty179 : ty Try.prog 179 = some ⟨1, 8, .fn, [.nilFunc]⟩ := by kernel_rfl
@[simp] theorem ty181 : ty Try.prog 181 = some ⟨1, 8, .fn, [.nilFunc]⟩ := by kernel_rfl
@[simp] theorem ty183 : ty Try.prog 183 = some ⟨1, 8, .fn, [.nilFunc]⟩ := by kernel_rfl
@[simp] theorem ty184 : ty Try.prog 184 = some ⟨1, 8, .fn, [.nilFunc]⟩ := by kernel_rfl
@[simp] theorem ty185 : ty Try.prog 185 = some ⟨1, 8, .fn, [.nilFunc]⟩ := by kernel_rfl
@[simp] theorem ty186 : ty Try.prog 186 = some ⟨1, 8, .fn, [.nilFunc]⟩ := by kernel_rfl
@[simp] theorem ty187 : ty Try.prog 187 = some ⟨1, 8, .fn, [.nilFunc]⟩ := by kernel_rfl
@[simp] theorem ty188 : ty Try.prog 188 = some ⟨1, 8, .fn, [.nilFunc]⟩ := by kernel_rfl
@[simp] theorem ty189 : ty Try.prog 189 = some ⟨1, 8, .fn, [.nilFunc]⟩ := by kernel_rfl
@[simp] theorem ty190 : ty Try.prog 190 = some ⟨1, 8, .fn, [.nilFunc]⟩ := by kernel_rfl
@[simp] theorem ty191 : ty Try.prog 191 = some ⟨1, 8, .fn, [.nilFunc]⟩ := by kernel_rfl
@[simp] theorem ty192 : ty Try.prog 192 = some ⟨1, 8, .fn, [.nilFunc]⟩ := by kernel_rfl
@[simp] theorem ty194 : ty Try.prog 194 = some ⟨1, 8, .fn, [.nilFunc]⟩ := by kernel_rfl
@[simp] theorem ty195 : ty Try.prog 195 = some ⟨1, 8, .fn, [.nilFunc]⟩ := by kernel_rfl
@[simp] theorem ty196 : ty Try.prog 196 = some ⟨1, 8, .fn, [.nilFunc]⟩ := by kernel_rfl
@[simp] theorem ty197 : ty Try.prog 197 = some ⟨6, 48, .array 6 3, [.int .i64 0, .int .i64 0, .int .i64 0, .int .i64 0, .int .i64 0, .int .i64 0]⟩ := by kernel_rfl
@[simp] theorem ty198 : ty Try.prog 198 = some ⟨1, 8, .fn, [.nilFunc]⟩ := by kernel_rfl
@[simp] theorem ty199 : ty Try.prog 199 = some ⟨1, 8, .fn, [.nilFunc]⟩ := by kernel_rfl
@[simp] theorem ty200 : ty Try.prog 200 = some ⟨1, 8, .fn, [.nilFunc]⟩ := by kernel_rfl
@[simp] theorem ty201 : ty Try.prog 201 = some ⟨1, 8, .fn, [.nilFunc]⟩ := by kernel_rfl
@[simp] theorem ty202 : ty Try.prog 202 = some ⟨1, 8, .fn, [.nilFunc]⟩ := by kernel_rfl
@[simp] theorem ty203 : ty Try.prog 203 = some ⟨4, 40, .struct [(17, 0), (17, 1), (17, 2), (9, 3)], [.pointer none, .pointer none, .pointer none, .string ⟨#[]⟩]⟩ := by kernel_rfl
@[simp] theorem ty204 : ty Try.prog 204 = some ⟨4, 40, .struct [(17, 0), (17, 1), (17, 2), (9, 3)], [.pointer none, .pointer none, .pointer none, .string ⟨#[]⟩]⟩ := by kernel_rfl
@[simp] theorem ty205 : ty Try.prog 205 = some ⟨0, 0, .array 0 16, []⟩ := by kernel_rfl
@[simp] theorem ty206 : ty Try.prog 206 = some ⟨0, 0, .struct [(205, 0)], []⟩ := by kernel_rfl
@[simp] theorem ty207 : ty Try.prog 207 = some ⟨0, 0, .struct [(205, 0)], []⟩ := by kernel_rfl
@[simp] theorem ty208 : ty Try.prog 208 = some ⟨1, 4, .int .u32, [.int .u32 0]⟩ := by kernel_rfl
@[simp] theorem ty209 : ty Try.prog 209 = some ⟨1, 1, .int .u8, [.int .u8 0]⟩ := by kernel_rfl
@[simp] theorem ty210 : ty Try.prog 210 = some ⟨1, 1, .int .u8, [.int .u8 0]⟩ := by kernel_rfl
@[simp] theorem ty211 : ty Try.prog 211 = some ⟨1, 8, .fn, [.nilFunc]⟩ := by kernel_rfl
@[simp] theorem ty212 : ty Try.prog 212 = some ⟨1, 8, .ptr 5, [.pointer none]⟩ := by kernel_rfl
@[simp] theorem ty213 : ty Try.prog 213 = some ⟨1, 4, .int .i32, [.int .i32 0]⟩ := by kernel_rfl
@[simp] theorem ty214 : ty Try.prog 214 = some ⟨1, 4, .int .i32, [.int .i32 0]⟩ := by kernel_rfl
@[simp] theorem ty215 : ty Try.prog 215 = some ⟨11, 48, .struct [(12, 0), (12, 1), (208, 2), (209, 3), (5, 4), (5, 5), (210, 6), (211, 7), (212, 8), (213, 9), (214, 10)], [.int .u64 0, .int .u64 0, .int .u32 0, .int .u8 0, .int .u8 0, .int .u8 0, .int .u8 0, .nilFunc, .pointer none, .int .i32 0, .int .i32 0]⟩ := by kernel_rfl
@[simp] theorem ty216 : ty Try.prog 216 = some ⟨11, 48, .struct [(12, 0), (12, 1), (208, 2), (209, 3), (5, 4), (5, 5), (210, 6), (211, 7), (212, 8), (213, 9), (214, 10)], [.int .u64 0, .int .u64 0, .int .u32 0, .int .u8 0, .int .u8 0, .int .u8 0, .int .u8 0, .nilFunc, .pointer none, .int .i32 0, .int .i32 0]⟩ := by kernel_rfl
end Go.Proofs

namespace Go.Proofs
open Go.Awp
abbrev vI (n : Int) : D := .v (.int .i64 n)
abbrev vS (s : ByteArray) : D := .v (.string s)
abbrev vB (b : UInt8) : D := .v (.int .u8 b.toNat)
abbrev rI (x : List Int) : D := rows 1 vI x
abbrev oI (x : List Int) : D := ownR 1 vI x
abbrev rB (x : List UInt8) : D := rows 1 vB x
abbrev oB (x : List UInt8) : D := ownR 1 vB x
structure Root where
  name : ByteArray
  ix : Int
  gen : Int
  deriving Inhabited
def eRoot (r : Root) : D := .agg [vS r.name, vI r.ix, vI r.gen]
abbrev rR (x : List Root) : D := rows 3 eRoot x
abbrev oR (x : List Root) : D := ownR 3 eRoot x
@[simp] theorem roed_eRoot (r : Root) : (eRoot r).roed = eRoot r := by simp [eRoot]
@[simp] theorem noRo_eRoot (r : Root) : (eRoot r).noRo = true := by simp [eRoot]
@[simp] theorem noSn_eRoot (r : Root) : (eRoot r).noSn = true := by simp [eRoot]
@[simp] theorem eqg82 : Try.prog.eqGuardType Try.prog.depth 82 = false := by kernel_rfl
@[simp] theorem eqk76 : eqOk Try.prog 76 = true := by kernel_rfl
@[simp] theorem eqg28 : Try.prog.eqGuardType Try.prog.depth 28 = false := by kernel_rfl
@[simp] theorem eqk28 : eqOk Try.prog 28 = true := by kernel_rfl

def mayS (c : Int) : Bool := !(decide (c ≤ 32) || (decide (127 ≤ c) && decide (c ≤ 160)) || decide (c = 65533))
def handleS (a b : Int) : Bool := decide (0 ≤ a) && decide (a < 32) && decide (0 ≤ b) && decide (b < 65536)
theorem decode_pos (s : ByteArray) (i : Nat) : 1 ≤ (Utf8.decode s i).2 := by
  unfold Utf8.decode
  dsimp only
  repeat' split
  all_goals simp

def runesOk (s : ByteArray) (pos : Nat) : Bool :=
  if pos < s.size then mayS (Utf8.decode s pos).1 && runesOk s (pos + (Utf8.decode s pos).2) else true
termination_by s.size - pos
decreasing_by have := decode_pos s pos; omega

def nameS (s : ByteArray) : Bool := runesOk s 0 && (!(s.toList == []) && decide ((s.size : Int) ≤ 16))

def firstS (l : List Root) (nm : ByteArray) : Int := match l.findIdx? (fun r => r.name.toList == nm.toList) with
  | some i => i
  | none => -1

theorem firstS_at {l : List Root} {nm : ByteArray} {i : Nat} (hi : i < l.length) (h : ∀ j, j < i → ((nth l j).name.toList == nm.toList) = false) (ht : ((nth l i).name.toList == nm.toList) = true) : firstS l nm = i := by
  have : l.findIdx? (fun r => r.name.toList == nm.toList) = some i := by
    rw [List.findIdx?_eq_some_iff_getElem]
    refine ⟨hi, by rw [nth_eq hi] at ht; exact ht, fun j hj => ?_⟩
    have := h j hj
    have hj2 : j < l.length := by omega
    rw [nth_eq hj2] at this
    simpa using this
  simp [firstS, this]

theorem firstS_none {l : List Root} {nm : ByteArray} (h : ∀ j, j < l.length → ((nth l j).name.toList == nm.toList) = false) : firstS l nm = -1 := by
  have : l.findIdx? (fun r => r.name.toList == nm.toList) = none := by
    rw [List.findIdx?_eq_none_iff]
    intro x hx
    obtain ⟨j, hj, rfl⟩ := List.getElem_of_mem hx
    have := h j hj
    rw [nth_eq hj] at this
    exact this
  simp [firstS, this]

def zRoot : Root := ⟨⟨#[]⟩, 0, 0⟩
def newOk (n : Int) : Bool := !(decide (n < 2) || decide (8 < n) || (n.tmod 2 != 0))
def isZero (r : Root) : Bool := r.name.toList == (⟨#[]⟩ : ByteArray).toList && (r.ix == 0 && (r.gen == 0))
def rootOk (l : List Root) (i : Nat) : Bool := isZero (nth l i) || (nameS (nth l i).name && handleS (nth l i).ix (nth l i).gen && !decide (0 ≤ firstS (l.take i) (nth l i).name))
def rootsS (l : List Root) : Bool := (List.range l.length).all (rootOk l) && newOk l.length

theorem roots_bad {l : List Root} {i : Nat} (hi : i < l.length) (h : rootOk l i = false) : rootsS l = false := by
  have : (List.range l.length).all (rootOk l) = false := by
    rw [List.all_eq_false]; exact ⟨i, by simpa using hi, by simp [h]⟩
  simp [rootsS, this]
theorem roots_good {l : List Root} (h : ∀ i, i < l.length → rootOk l i = true) : rootsS l = newOk l.length := by
  have : (List.range l.length).all (rootOk l) = true := by
    rw [List.all_eq_true]; intro i hi; exact h i (by simpa using hi)
  simp [rootsS, this]

@[simp] theorem tmod_two (n : Nat) : (n : Int).tmod 2 = ((n % 2 : Nat) : Int) := rfl
structure Abs where
  gens : List Int
  data : List (List UInt8)
  roots : List Root
  deriving Inhabited
@[simp] theorem roed_rB (x : List UInt8) : (rB x).roed = rB x := by simp
abbrev rBB (x : List (List UInt8)) : D := rows 1 rB x
def eAbs (a : Abs) : D := .agg [rI a.gens, rBB a.data, rR a.roots]
structure Abs.Ok (a : Abs) : Prop where
  h1 : a.gens.length ≤ 2^40
  h2 : a.data.length ≤ 2^40
  h3 : a.roots.length ≤ 2^40
  h4 : ∀ i, i < a.data.length → (nth a.data i).length ≤ 2^40
  h5 : ∀ i, i < a.roots.length → (nth a.roots i).name.size ≤ 2^40
def slotOk (a : Abs) (i : Nat) : Bool := !(decide (nth a.gens i < 0) || decide (65535 < nth a.gens i) || decide (2048 < (nth a.data i).length))
def lensOk (a : Abs) : Bool := !((a.gens.length != a.data.length) || decide (a.gens.length < 2) || decide (32 < a.gens.length) || (a.gens.length % 2 != 0))
def rightS (a : Abs) : Bool := lensOk a && (List.range a.gens.length).all (slotOk a) && rootsS a.roots

theorem right_len {a : Abs} (h : lensOk a = false) : rightS a = false := by simp [rightS, h]
theorem right_bad {a : Abs} {i : Nat} (hi : i < a.gens.length) (h : slotOk a i = false) : rightS a = false := by
  have : (List.range a.gens.length).all (slotOk a) = false := by
    rw [List.all_eq_false]; exact ⟨i, by simpa using hi, by simp [h]⟩
  simp [rightS, this]
theorem right_good {a : Abs} (h0 : lensOk a = true) (h : ∀ i, i < a.gens.length → slotOk a i = true) : rightS a = rootsS a.roots := by
  have : (List.range a.gens.length).all (slotOk a) = true := by
    rw [List.all_eq_true]; intro i hi; exact h i (by simpa using hi)
  simp [rightS, this, h0]

theorem all_bad {f : Nat → Bool} {n i : Nat} (hi : i < n) (h : f i = false) : (List.range n).all f = false := by
  rw [List.all_eq_false]; exact ⟨i, by simpa using hi, by simp [h]⟩
theorem all_good {f : Nat → Bool} {n : Nat} (h : ∀ i, i < n → f i = true) : (List.range n).all f = true := by
  rw [List.all_eq_true]; intro i hi; exact h i (by simpa using hi)

/-- Are two rows the same, element by element? -/
def sameL {α : Type} [Inhabited α] (eq : α → α → Bool) (x y : List α) : Bool := (x.length == y.length) && (List.range x.length).all fun i => eq (nth x i) (nth y i)
theorem sameL_len {α : Type} [Inhabited α] {eq : α → α → Bool} {x y : List α} (h : x.length ≠ y.length) : sameL eq x y = false := by simp [sameL, h]
theorem sameL_bad {α : Type} [Inhabited α] {eq : α → α → Bool} {x y : List α} {i : Nat} (hi : i < x.length) (h : eq (nth x i) (nth y i) = false) : sameL eq x y = false := by
  simp only [sameL]; rw [all_bad hi h]; simp
theorem sameL_good {α : Type} [Inhabited α] {eq : α → α → Bool} {x y : List α} (hl : x.length = y.length) (h : ∀ i, i < x.length → eq (nth x i) (nth y i) = true) : sameL eq x y = true := by
  simp only [sameL]; rw [all_good h]; simp [hl]

def str (b : List UInt8) : ByteArray := ⟨b.toArray⟩
theorem bytesD_vB (l : List UInt8) : bytesD (l.map vB) = some (l.map fun b => (b.toNat : Int)) := by
  induction l with
  | nil => rfl
  | cons b l ih => simp [bytesD, ih]
theorem bytesStr_vB (l : List UInt8) : bytesStr (l.map fun b => (b.toNat : Int)) = str l := by
  have key : ∀ (l : List UInt8) (r : ByteArray), (l.map fun b => (b.toNat : Int)).foldl (fun r n => r.push (UInt8.ofNat n.toNat)) r = ⟨r.data ++ l.toArray⟩ := by
    intro l
    induction l with
    | nil => intro r; simp
    | cons b l ih => intro r; simp only [List.map_cons, List.foldl_cons]; rw [ih]; simp [ByteArray.push]
  simp [bytesStr, key, str]
theorem conv_rB (objs : List Awp.Obj) (b : List UInt8) : convA Try.prog objs 29 9 (.d (rB b)) = some (.d (.v (.string (str b))), objs) := by
  simp [convA, rows, isStrTy, isBytesTy, isIntTy, elemsOf, fullA, bytesD_vB, bytesStr_vB]
def sameRoot (a b : Root) : Bool := a.name.toList == b.name.toList && (a.ix == b.ix && (a.gen == b.gen))
def sameAbs (a b : Abs) : Bool := sameL (· == ·) a.gens b.gens && (sameL (fun x y => (str x).toList == (str y).toList) a.data b.data && sameL sameRoot a.roots b.roots)

structure Op where
  act : Int
  ix : Int
  gen : Int
  n : Int
  off : Int
  b : List UInt8
  name : ByteArray
def eOp (o : Op) : D := .agg [vI o.act, vI o.ix, vI o.gen, vI o.n, vI o.off, rB o.b, vS o.name]
def fewOp (o : Op) : Bool := decide ((o.b.length : Int) ≤ 4096) && decide ((o.name.size : Int) ≤ 1024)
def goodS (a : Abs) (ix gn : Int) : Bool := decide (0 ≤ ix) && (decide (ix < a.gens.length) && (decide (0 < ((nth a.data ix.toNat).length : Int)) && (nth a.gens ix.toNat == gn)))
theorem and3_f {a b c : Bool} (h : (!a || (!b || !c)) = true) : (a && (b && c)) = false := by cases a <;> cases b <;> cases c <;> simp at *
theorem and3_t {a b c : Bool} (h : (!a || (!b || !c)) = false) : (a && (b && c)) = true := by cases a <;> cases b <;> cases c <;> simp at *

def findS (l : List Root) (nm : ByteArray) : Int × Int := if rootsS l = false then (0, 1) else if nameS nm = false then (0, 3) else (firstS l nm, 0)
structure RootsOk (l : List Root) : Prop where
  h1 : l.length ≤ 2^40
  h2 : ∀ i, i < l.length → (nth l i).name.size ≤ 2^40
theorem firstS_range (l : List Root) (nm : ByteArray) : -1 ≤ firstS l nm ∧ firstS l nm < l.length := by
  unfold firstS
  split
  · rename_i i h
    rw [List.findIdx?_eq_some_iff_getElem] at h
    obtain ⟨h, _⟩ := h
    omega
  · omega

def dropS (l : List Root) (nm : ByteArray) : List Root × Int := if (findS l nm).2 ≠ 0 then ([], (findS l nm).2) else if (findS l nm).1 < 0 then ([], 11) else (l.set (findS l nm).1.toNat zRoot, 0)
theorem newOk_pos {n : Int} (h : newOk n = true) : 2 ≤ n := by simp [newOk] at h; omega
theorem findS_nat {l : List Root} {nm : ByteArray} (hl : RootsOk l) (h1 : (findS l nm).2 = 0) (h2 : 0 ≤ (findS l nm).1) : ∃ k : Nat, (findS l nm).1 = k ∧ k < l.length := by
  unfold findS at h1 h2 ⊢
  by_cases q1 : rootsS l = false
  · simp [q1] at h1
  · by_cases q2 : nameS nm = false
    · simp [q1, q2] at h1
    · rw [if_neg q1, if_neg q2] at h2 ⊢
      simp only at h2 ⊢
      have := firstS_range l nm
      exact ⟨(firstS l nm).toNat, by omega, by omega⟩

def getS (l : List Root) (nm : ByteArray) : Int × Int × Int := if (findS l nm).2 ≠ 0 then (0, 0, (findS l nm).2) else if (findS l nm).1 < 0 then (0, 0, 11) else ((nth l (findS l nm).1.toNat).ix, (nth l (findS l nm).1.toNat).gen, 0)

def slotS (l : List Root) (nm : ByteArray) : Int := if (findS l nm).1 < 0 then firstS l ⟨#[]⟩ else (findS l nm).1
def setS (l : List Root) (nm : ByteArray) (ix gn : Int) : List Root × Int :=
  if (findS l nm).2 ≠ 0 then ([], (findS l nm).2) else if handleS ix gn = false then ([], 1) else if slotS l nm < 0 then ([], 9) else (l.set (slotS l nm).toNat ⟨nm, ix, gn⟩, 0)
theorem slotS_nat {l : List Root} {nm : ByteArray} (hl : RootsOk l) (h1 : (findS l nm).2 = 0) (h2 : 0 ≤ slotS l nm) : ∃ k : Nat, slotS l nm = k ∧ k < l.length := by
  unfold slotS at h2 ⊢
  split at h2
  · rename_i q
    rw [if_pos q]
    have := firstS_range l ⟨#[]⟩
    exact ⟨(firstS l ⟨#[]⟩).toNat, by omega, by omega⟩
  · rename_i q
    rw [if_neg q]
    exact findS_nat hl h1 h2
end Go.Proofs

namespace Go.Proofs
open Go.Awp
abbrev oBB (x : List (List UInt8)) : D := ownR 1 oB x
def oAbs (a : Abs) : D := .agg [oI a.gens, oBB a.data, oR a.roots]
@[simp] theorem snap_eRoot (r : Root) : (eRoot r).snap = eRoot r := by simp [eRoot, snap_agg, snap_v]
@[simp] theorem noOwn_eRoot (r : Root) : (eRoot r).noOwn = true := by simp [eRoot, noOwn_agg, noOwn_v]
def reachS (size : Nat) (off n : Int) : Bool := !(decide (off < 0) || (decide ((size : Int) < off) || (decide (n < 0) || decide ((size : Int) - off < n))))
theorem reach_eq {len : Nat} {off n : Int} (h : len ≤ 2^40) : (decide (off < 0) || decide ((len : Int) < off) || decide (n < 0) || decide (IntKind.i64.wrap ((len : Int) - off) < n)) = !reachS len off n := by
  by_cases h1 : off < 0
  · simp [reachS, h1]
  by_cases h2 : (len : Int) < off
  · simp [reachS, h2]
  rw [wrap64 (by omega) (by omega)]
  simp [reachS, h1, h2]
def sizedS (n : Int) : Bool := decide (1 ≤ n) && decide (n ≤ 2048)
def openS (a : Abs) (i : Nat) : Bool := decide ((nth a.data i).length = 0) && (nth a.gens i != 65535)
def allocIx (a : Abs) : Option Nat := (List.range a.gens.length).find? (openS a)
theorem allocIx_at {a : Abs} {i : Nat} (hi : i < a.gens.length) (h : ∀ j, j < i → openS a j = false) (ht : openS a i = true) : allocIx a = some i := by
  unfold allocIx
  rw [List.find?_range_eq_some]
  exact ⟨ht, by simpa using hi, fun j hj => by simp [h j hj]⟩
theorem allocIx_none {a : Abs} (h : ∀ j, j < a.gens.length → openS a j = false) : allocIx a = none := by
  unfold allocIx
  rw [List.find?_eq_none]
  intro j hj; simp [h j (by simpa using hj)]
/-- A heap, a handle, bytes, an error. -/
structure Eff where
  a : Abs
  ix : Int
  gen : Int
  b : List UInt8
  e : Int
def allocS (a : Abs) (n : Int) : Eff := if sizedS n = false then ⟨a, 0, 0, [], 1⟩ else match allocIx a with
  | some i => ⟨{ a with data := a.data.set i (List.replicate n.toNat 0) }, i, nth a.gens i, [], 0⟩
  | none => ⟨a, 0, 0, [], 9⟩
def freeS (a : Abs) (k : Nat) : Eff := ⟨{ a with data := a.data.set k [], gens := a.gens.set k (min (nth a.gens k + 1) 65535) }, 0, 0, [], 0⟩
def resizeS (a : Abs) (k : Nat) (n : Int) : Eff := if sizedS n = false then ⟨a, 0, 0, [], 1⟩ else ⟨{ a with data := a.data.set k ((nth a.data k).take n.toNat ++ List.replicate (n.toNat - (nth a.data k).length) 0) }, 0, 0, [], 0⟩
def readS (a : Abs) (k : Nat) (off n : Int) : Eff := if reachS (nth a.data k).length off n = false then ⟨a, 0, 0, [], 1⟩ else ⟨a, 0, 0, ((nth a.data k).drop off.toNat).take n.toNat, 0⟩
def writeS (a : Abs) (k : Nat) (off : Int) (b : List UInt8) : Eff := if reachS (nth a.data k).length off b.length = false then ⟨a, 0, 0, [], 1⟩ else ⟨{ a with data := a.data.set k (Go.splice (nth a.data k) off.toNat b) }, 0, 0, [], 0⟩
def rootS (a : Abs) (o : Op) : Eff :=
  if o.act = 6 then ⟨{ a with roots := (setS a.roots o.name o.ix o.gen).1 }, 0, 0, [], (setS a.roots o.name o.ix o.gen).2⟩
  else if o.act = 7 then ⟨a, (getS a.roots o.name).1, (getS a.roots o.name).2.1, [], (getS a.roots o.name).2.2⟩
  else if o.act = 8 then ⟨{ a with roots := (dropS a.roots o.name).1 }, 0, 0, [], (dropS a.roots o.name).2⟩
  else ⟨a, 0, 0, [], 0⟩
end Go.Proofs
namespace Go.Proofs
open Go.Awp
theorem resize_row (b : List UInt8) (n : Nat) : Go.splice (List.replicate n (D.v (.int .u8 0))) 0 ((b.map vB).take (min b.length n)) = (b.take n ++ List.replicate (n - b.length) 0).map vB := by
  simp only [Go.splice, List.take_zero, List.nil_append, Nat.zero_add, List.drop_replicate, List.map_append, List.map_take, List.map_replicate, List.length_take, List.length_map]
  rw [show min (min b.length n) b.length = min b.length n by omega]
  rw [show (vB 0) = D.v (.int .u8 0) from rfl, show n - min b.length n = n - b.length by omega]
  congr 1
  rw [show min b.length n = min n (b.map vB).length by simp; omega]
  exact List.take_eq_take_min.symm
end Go.Proofs
namespace Go.Proofs
open Go.Awp
theorem set_self {α β : Type} [Inhabited α] (f : α → β) {l : List α} {k : Nat} (hk : k < l.length) : (l.map f).set k (f (nth l k)) = l.map f := by
  rw [← List.map_set, nth_eq hk]; congr 1; exact List.set_getElem_self ..
theorem set_oB_self {l : List (List UInt8)} {k : Nat} (hk : k < l.length) : (l.map oB).set k (.row .own 1 ((nth l k).map vB)) = l.map oB := set_self oB hk
theorem splice_map {α β : Type} (f : α → β) (l : List α) (i : Nat) (b : List α) : Go.splice (l.map f) i (b.map f) = (Go.splice l i b).map f := by
  simp [Go.splice, List.map_take, List.map_drop]
theorem set_oB_splice {l : List (List UInt8)} {k i : Nat} {b : List UInt8} : (l.map oB).set k (.row .own 1 (Go.splice ((nth l k).map vB) i (b.map vB))) = (l.set k (Go.splice (nth l k) i b)).map oB := by
  rw [splice_map, List.map_set]; rfl
end Go.Proofs
namespace Go.Proofs
open Go.Awp
def kindS (a : Abs) (o : Op) : Int := if o.act = 1 then 81 else if o.act = 7 ∨ o.act = 8 then 82 else if o.act < 1 ∨ 8 < o.act then -1 else if o.act = 6 ∧ nameS o.name = false then -3
  else if goodS a o.ix o.gen = false then -8 else if o.act = 2 then 85 else if o.act = 3 then 86 else if o.act = 4 then 87 else if o.act = 5 then 88 else 82
end Go.Proofs
namespace Go.Proofs
open Go.Awp
/-- Rows of which the first i are copied. -/
def mixB (i : Nat) (l : List (List UInt8)) : List D := (l.take i).map oB ++ (l.drop i).map rB
theorem mixB_zero {l : List (List UInt8)} : mixB 0 l = l.map rB := by simp [mixB]
theorem mixB_all {l : List (List UInt8)} : mixB l.length l = l.map oB := by simp [mixB]
@[simp] theorem mixB_length {i : Nat} {l : List (List UInt8)} : (mixB i l).length = l.length := by simp [mixB]; omega
theorem mixB_get {i : Nat} {l : List (List UInt8)} (h : i < l.length) : (mixB i l)[i]? = some (rB (nth l i)) := by
  unfold mixB
  rw [List.getElem?_append_right (by simp; omega)]
  have e : i - ((l.take i).map oB).length = 0 := by simp; omega
  rw [e, List.getElem?_map, List.getElem?_drop, Nat.add_zero, get_some h]; rfl
theorem mixB_set {i : Nat} {l : List (List UInt8)} (h : i < l.length) : (mixB i l).set i (.row .own 1 ((nth l i).map vB)) = mixB (i + 1) l := by
  unfold mixB
  rw [List.set_append_right _ _ (by simp; omega)]
  have e : i - ((l.take i).map oB).length = 0 := by simp; omega
  rw [e, nth_eq h, List.drop_eq_getElem_cons h, List.map_cons, List.set_cons_zero, List.take_succ_eq_append_getElem h, List.map_append]
  simp [ownR]
end Go.Proofs
namespace Go.Proofs
open Go.Awp
@[simp] theorem noSn_oAbs (a : Abs) : (oAbs a).noSn = true := by simp [oAbs]
@[simp] theorem noRo_oAbs (a : Abs) : (oAbs a).noRo = true := by simp [oAbs]
end Go.Proofs
namespace Go.Proofs
open Go.Awp
def zAbs : Abs := ⟨[], [], []⟩
def effS (a : Abs) (o : Op) : Eff := if kindS a o = 81 then allocS a o.n else if kindS a o = 82 then rootS a o else if kindS a o = 85 then freeS a o.ix.toNat else if kindS a o = 86 then resizeS a o.ix.toNat o.n
  else if kindS a o = 87 then readS a o.ix.toNat o.off o.n else if kindS a o = 88 then writeS a o.ix.toNat o.off o.b else ⟨a, 0, 0, [], -(kindS a o)⟩
def failS (e : Int) : Eff := ⟨zAbs, 0, 0, [], e⟩
def doS (a : Abs) (o : Op) : Eff := if rightS a = false then failS 1 else if (effS a o).e ≠ 0 then failS (effS a o).e else effS a o
theorem doS_fail {a : Abs} {o : Op} (h : rightS a = true) (he : (effS a o).e ≠ 0) : doS a o = failS (effS a o).e := by simp [doS, h, he]
theorem doS_ok {a : Abs} {o : Op} (h : rightS a = true) (he : (effS a o).e = 0) : doS a o = effS a o := by simp [doS, h, he]
@[simp] theorem allocS_b {a n} : (allocS a n).b = [] := by unfold allocS; split; rfl; split <;> rfl
@[simp] theorem allocS_gens {a n} : (allocS a n).a.gens = a.gens := by unfold allocS; split; rfl; split <;> rfl
@[simp] theorem allocS_roots {a n} : (allocS a n).a.roots = a.roots := by unfold allocS; split; rfl; split <;> rfl
@[simp] theorem allocS_len {a n} : (allocS a n).a.data.length = a.data.length := by unfold allocS; split; rfl; split <;> simp
@[simp] theorem resizeS_b {a k n} : (resizeS a k n).b = [] := by unfold resizeS; split <;> rfl
@[simp] theorem resizeS_ix {a k n} : (resizeS a k n).ix = 0 := by unfold resizeS; split <;> rfl
@[simp] theorem resizeS_gen {a k n} : (resizeS a k n).gen = 0 := by unfold resizeS; split <;> rfl
@[simp] theorem resizeS_gens {a k n} : (resizeS a k n).a.gens = a.gens := by unfold resizeS; split <;> rfl
@[simp] theorem resizeS_roots {a k n} : (resizeS a k n).a.roots = a.roots := by unfold resizeS; split <;> rfl
@[simp] theorem resizeS_len {a k n} : (resizeS a k n).a.data.length = a.data.length := by unfold resizeS; split <;> simp
@[simp] theorem writeS_b {a k n b} : (writeS a k n b).b = [] := by unfold writeS; split <;> rfl
@[simp] theorem writeS_ix {a k n b} : (writeS a k n b).ix = 0 := by unfold writeS; split <;> rfl
@[simp] theorem writeS_gen {a k n b} : (writeS a k n b).gen = 0 := by unfold writeS; split <;> rfl
@[simp] theorem writeS_gens {a k n b} : (writeS a k n b).a.gens = a.gens := by unfold writeS; split <;> rfl
@[simp] theorem writeS_roots {a k n b} : (writeS a k n b).a.roots = a.roots := by unfold writeS; split <;> rfl
@[simp] theorem writeS_len {a k n b} : (writeS a k n b).a.data.length = a.data.length := by unfold writeS; split <;> simp
theorem kindS_84 {a o} (h : kindS a o = 82) : o.act = 6 ∨ o.act = 7 ∨ o.act = 8 := by
  unfold kindS at h
  (repeat' split at h) <;> omega
theorem kindS_good {a o} (h : 85 ≤ kindS a o) : goodS a o.ix o.gen = true := by
  unfold kindS at h
  by_cases hg : goodS a o.ix o.gen = true
  · exact hg
  · rw [if_pos (show goodS a o.ix o.gen = false by simpa using hg)] at h
    (repeat' split at h) <;> omega
theorem goodS_nat {a ix gn} (h : goodS a ix gn = true) : ∃ k : Nat, ix = k ∧ k < a.gens.length ∧ 0 < (nth a.data k).length ∧ nth a.gens k = gn := by
  simp [goodS] at h
  obtain ⟨h1, h2, h3, h4⟩ := h
  refine ⟨ix.toNat, by omega, by omega, ?_, h4⟩
  exact h3
theorem kindS_cases (a : Abs) (o : Op) : kindS a o = 81 ∨ (kindS a o = 82 ∧ o.act = 6) ∨ (kindS a o = 82 ∧ o.act = 7) ∨ (kindS a o = 82 ∧ o.act = 8) ∨ kindS a o = 85 ∨ kindS a o = 86 ∨ kindS a o = 87 ∨ kindS a o = 88 ∨ (∃ e : Nat, 0 < e ∧ kindS a o = -(e : Int)) := by
  have h84 := @kindS_84 a o
  have : kindS a o = 81 ∨ kindS a o = 82 ∨ kindS a o = 85 ∨ kindS a o = 86 ∨ kindS a o = 87 ∨ kindS a o = 88 ∨ kindS a o = -1 ∨ kindS a o = -3 ∨ kindS a o = -8 := by
    unfold kindS
    (repeat' split) <;> simp
  rcases this with h | h | h | h | h | h | h | h | h
  · exact .inl h
  · rcases h84 h with h' | h' | h' <;> simp [h, h']
  · simp [h]
  · simp [h]
  · simp [h]
  · simp [h]
  · simp [h]; exact ⟨1, by omega, rfl⟩
  · simp [h]; exact ⟨3, by omega, rfl⟩
  · simp [h]; exact ⟨8, by omega, rfl⟩
theorem rightS_len {a : Abs} (h : rightS a = true) : a.data.length = a.gens.length ∧ 2 ≤ a.gens.length ∧ a.gens.length ≤ 32 := by
  simp [rightS, lensOk] at h; omega
theorem rightS_slot {a : Abs} (h : rightS a = true) {k : Nat} (hk : k < a.gens.length) : 0 ≤ nth a.gens k ∧ nth a.gens k ≤ 65535 ∧ (nth a.data k).length ≤ 2048 := by
  simp [rightS] at h
  have := h.1.2 k hk
  simp [slotOk] at this; omega
end Go.Proofs
namespace Go.Proofs
open Go.Awp
theorem do_cases (a : Abs) (o : Op) : kindS a o = 81 ∨ (kindS a o = 82 ∧ o.act = 6) ∨ (kindS a o = 82 ∧ o.act = 7) ∨ (kindS a o = 82 ∧ o.act = 8) ∨ kindS a o = 85 ∨ kindS a o = 86 ∨ (kindS a o = 87 ∧ reachS (nth a.data o.ix.toNat).length o.off o.n = true)
    ∨ (kindS a o = 87 ∧ reachS (nth a.data o.ix.toNat).length o.off o.n = false) ∨ kindS a o = 88 ∨ (∃ e : Nat, 0 < e ∧ kindS a o = -(e : Int)) := by
  have := kindS_cases a o
  cases h : reachS (nth a.data o.ix.toNat).length o.off o.n <;> simp [h] <;> exact this
end Go.Proofs
namespace Go.Proofs
open Go.Awp
@[simp] theorem freeS_gens {a k} : (freeS a k).a.gens.length = a.gens.length := by simp [freeS]
@[simp] theorem freeS_data {a k} : (freeS a k).a.data.length = a.data.length := by simp [freeS]
@[simp] theorem freeS_roots {a k} : (freeS a k).a.roots = a.roots := rfl
@[simp] theorem freeS_b {a k} : (freeS a k).b = [] := rfl
@[simp] theorem freeS_ix {a k} : (freeS a k).ix = 0 := rfl
@[simp] theorem freeS_gen {a k} : (freeS a k).gen = 0 := rfl
@[simp] theorem freeS_e {a k} : (freeS a k).e = 0 := rfl
end Go.Proofs

namespace Go.Proofs
open Go.Awp
theorem op3 : Opens Try.prog 3 fun n : Int => [vI n] := opens_int Try.underlying3
theorem op5 : Opens Try.prog 5 fun b : UInt8 => [vB b] := opens_byte Try.underlying5
theorem op9 : Opens Try.prog 9 fun s : ByteArray => [vS s] := opens_str Try.underlying9
theorem op22 : Opens Try.prog 22 fun l : List Int => [rI l] := opens_slice (k := 1) (f := vI) Try.underlying22 (by kernel_rfl) (by decide) op3 (fun _ => rfl) (fun _ => ⟨rfl, by simp [D.cells, D.isCell]⟩)
theorem op29 : Opens Try.prog 29 fun l : List UInt8 => [rB l] := opens_slice (k := 1) (f := vB) Try.underlying29 (by kernel_rfl) (by decide) op5 (fun _ => rfl) (fun _ => ⟨rfl, by simp [D.cells, D.isCell]⟩)
theorem op23 : Opens Try.prog 23 fun l : List (List UInt8) => [rBB l] := opens_slice (k := 1) (f := rB) Try.underlying23 (by kernel_rfl) (by decide) op29 (fun _ => rfl) (fun _ => ⟨rfl, by simp [rows, D.isCell]⟩)
theorem op28 : Opens Try.prog 28 fun p : Int × Int => [vI p.1, vI p.2] :=
  (opens_struct (n := 2) Try.underlying28 (by kernel_rfl) (fs_cons rfl (size := 1) (by kernel_rfl) op3 (fs_cons rfl (size := 1) (by kernel_rfl) op3 (fs_nil (by decide))))).map (fun p => (p.1, p.2.1)) fun _ => rfl
theorem op76 : Opens Try.prog 76 fun r : Root => [vS r.name, vI r.ix, vI r.gen] :=
  (opens_struct (n := 3) Try.underlying76 (by kernel_rfl) (fs_cons rfl (size := 1) (by kernel_rfl) op9 (fs_cons rfl (size := 2) (by kernel_rfl) op28 (fs_nil (by decide))))).map (fun p => ⟨p.1, p.2.1.1, p.2.1.2⟩) fun _ => rfl
theorem op24 : Opens Try.prog 24 fun l : List Root => [rR l] := opens_slice (k := 3) (f := eRoot) Try.underlying24 (by kernel_rfl) (by decide) op76 (fun _ => rfl) (fun _ => ⟨rfl, by simp [eRoot, D.cells, D.isCell]⟩)
theorem op26 : Opens Try.prog 26 fun a : Abs => [rI a.gens, rBB a.data, rR a.roots] :=
  (opens_struct (n := 3) Try.underlying26 (by kernel_rfl) (fs_cons rfl (size := 1) (by kernel_rfl) op22 (fs_cons rfl (size := 1) (by kernel_rfl) op23 (fs_cons rfl (size := 1) (by kernel_rfl) op24 (fs_nil (by decide)))))).map (fun p => ⟨p.1, p.2.1, p.2.2.1⟩) fun _ => rfl
theorem op31 : Opens Try.prog 31 fun o : Op => [vI o.act, vI o.ix, vI o.gen, vI o.n, vI o.off, rB o.b, vS o.name] :=
  (opens_struct (n := 7) Try.underlying31 (by kernel_rfl) (fs_cons rfl (size := 1) (by kernel_rfl) op3 (fs_cons rfl (size := 2) (by kernel_rfl) op28 (fs_cons rfl (size := 1) (by kernel_rfl) op3 (fs_cons rfl (size := 1) (by kernel_rfl) op3
    (fs_cons rfl (size := 1) (by kernel_rfl) op29 (fs_cons rfl (size := 1) (by kernel_rfl) op9 (fs_nil (by decide))))))))).map (fun p => ⟨p.1, p.2.1.1, p.2.1.2, p.2.2.1, p.2.2.2.1, p.2.2.2.2.1, p.2.2.2.2.2.1⟩) fun _ => rfl
theorem own : ownKnob Try.prog.godebug = none := by kernel_rfl
theorem laidOut : laidOutB Try.prog = true := by kernel_rfl
def glT : Gl := ⟨fun _ => True, 0, fun _ _ _ _ => trivial⟩
end Go.Proofs
namespace Go.Proofs
open Go.Awp
end Go.Proofs

namespace Go.Proofs
open Go.Awp
def fewS (a : Abs) : Bool := (List.range (min a.data.length 100)).all (fun i => decide (((nth a.data i).length : Int) ≤ 4096)) && ((List.range (min a.roots.length 100)).all (fun i => decide (((nth a.roots i).name.size : Int) ≤ 1024))
  && (decide ((a.data.length : Int) ≤ 60) && (decide ((a.gens.length : Int) ≤ 60) && decide ((a.roots.length : Int) ≤ 60))))
theorem few_ok {a : Abs} (h : fewS a = true) : a.Ok := by
  simp [fewS] at h
  obtain ⟨h1, h2, h3, h4, h5⟩ := h
  refine ⟨by omega, by omega, by omega, fun i hi => ?_, fun i hi => ?_⟩
  · have := h1 i (by omega); omega
  · have := h2 i (by omega); omega
theorem few_len {a : Abs} (h : fewS a = true) : a.data.length ≤ 60 ∧ a.gens.length ≤ 60 ∧ a.roots.length ≤ 60 := by
  simp [fewS] at h; omega
def A0 : Abs := ⟨[0, 0], [[], []], [zRoot, zRoot]⟩
def A1 : Abs := ⟨[0, 0], [[0, 0, 0, 0], []], [zRoot, zRoot]⟩
def A2 : Abs := ⟨[0, 0], [[0, 7, 0, 0], []], [zRoot, zRoot]⟩
def A3 : Abs := ⟨[1, 0], [[], []], [zRoot, zRoot]⟩
def A4 : Abs := ⟨[1, 0], [[0], []], [zRoot, zRoot]⟩
def O (act n off : Int) (b : List UInt8) : Op := ⟨act, 0, 0, n, off, b, ⟨#[]⟩⟩
theorem d1 : doS A0 (O 1 4 0 []) = ⟨A1, 0, 0, [], 0⟩ := by kernel_rfl
theorem d2 : doS A1 (O 5 0 1 [7]) = ⟨A2, 0, 0, [], 0⟩ := by kernel_rfl
theorem d3 : doS A2 (O 4 4 0 []) = ⟨A2, 0, 0, [0, 7, 0, 0], 0⟩ := by kernel_rfl
theorem d4 : doS A2 (O 2 0 0 []) = ⟨A3, 0, 0, [], 0⟩ := by kernel_rfl
theorem d5 : doS A3 (O 4 0 0 []) = failS 8 := by kernel_rfl
theorem d6 : doS A3 (O 1 1 0 []) = ⟨A4, 0, 1, [], 0⟩ := by kernel_rfl
end Go.Proofs
namespace Go.Proofs
open Go.Awp
theorem conv_hB {objs : List Awp.Obj} {r : Nat} {b : List UInt8} (h : objs[r]? = some (.row 1 (b.map vB))) : convA Try.prog objs 29 9 (.hdr r 0 b.length) = some (.d (.v (.string (str b))), objs) := by
  simp [convA, isStrTy, isBytesTy, isIntTy, elemsOf, fullA, h, bytesD_vB, bytesStr_vB]
theorem conv_h4 {objs : List Awp.Obj} {r : Nat} (h : objs[r]? = some (.row 1 [.v (.int .u8 0), .v (.int .u8 7), .v (.int .u8 0), .v (.int .u8 0)])) : convA Try.prog objs 29 9 (.hdr r 0 4) = some (.d (.v (.string ⟨#[0, 7, 0, 0]⟩)), objs) :=
  conv_hB (b := [0, 7, 0, 0]) h
end Go.Proofs

set_option maxHeartbeats 1000000
namespace Go.Proofs
open Go.Awp
theorem toList_loop (s : ByteArray) : ∀ (n i : Nat) (r : List UInt8), s.size - i = n → ByteArray.toList.loop s i r = r.reverse ++ s.data.toList.drop i := by
  have hlen : s.data.toList.length = s.size := rfl
  intro n
  induction n with
  | zero =>
    intro i r h
    rw [ByteArray.toList.loop, if_neg (by omega), List.drop_eq_nil_of_le (by omega)]; simp
  | succ n ih =>
    intro i r h
    have hi : i < s.size := by omega
    rw [ByteArray.toList.loop, if_pos hi, ih (i + 1) _ (by omega)]
    have hi2 : i < s.data.toList.length := by omega
    rw [List.drop_eq_getElem_cons hi2]
    have : s.get! i = s.data.toList[i] := by
      have hi3 : i < s.data.size := hi
      show s.data[i]! = _
      rw [getElem!_pos s.data i hi3]
      simp
    rw [this]; simp
theorem toList_eq (s : ByteArray) : s.toList = s.data.toList := by
  unfold ByteArray.toList
  rw [toList_loop s _ 0 [] rfl]; simp
theorem toList_size (s : ByteArray) : s.toList.length = s.size := by rw [toList_eq]; rfl
theorem str_toList (b : List UInt8) : (str b).toList = b := by rw [toList_eq]; rfl
theorem nth_set {α : Type} [Inhabited α] {l : List α} {k i : Nat} {v : α} (hk : k < l.length) : nth (l.set k v) i = if i = k then v else nth l i := by
  simp only [nth, List.getD_eq_getElem?_getD]
  by_cases h : i = k
  · subst h; simp [hk]
  · rw [List.getElem?_set_ne (fun e => h e.symm), if_neg h]
theorem rightS_iff {a : Abs} : rightS a = true ↔ (a.data.length = a.gens.length ∧ 2 ≤ a.gens.length ∧ a.gens.length ≤ 32 ∧ a.gens.length % 2 = 0) ∧ (∀ i, i < a.gens.length → 0 ≤ nth a.gens i ∧ nth a.gens i ≤ 65535 ∧ (nth a.data i).length ≤ 2048) ∧ rootsS a.roots = true := by
  simp only [rightS, lensOk, slotOk, Bool.and_eq_true, List.all_eq_true, List.mem_range]
  constructor
  · rintro ⟨⟨h1, h2⟩, h3⟩
    refine ⟨by simp at h1; omega, fun i hi => ?_, h3⟩
    have := h2 i hi; simp at this; omega
  · rintro ⟨h1, h2, h3⟩
    refine ⟨⟨by simp; omega, fun i hi => ?_⟩, h3⟩
    have := h2 i hi; simp; omega
theorem rootsS_iff {l : List Root} : rootsS l = true ↔ (∀ i, i < l.length → rootOk l i = true) ∧ newOk l.length = true := by
  simp only [rootsS, Bool.and_eq_true, List.all_eq_true, List.mem_range]
theorem nameS_pos {s : ByteArray} (h : nameS s = true) : s.toList ≠ [] ∧ s.size ≤ 16 := by
  simp [nameS] at h
  obtain ⟨_, h1, h2⟩ := h
  exact ⟨h1, by omega⟩
theorem firstS_neg {l : List Root} {nm : ByteArray} : firstS l nm < 0 ↔ ∀ j, j < l.length → ((nth l j).name.toList == nm.toList) = false := by
  constructor
  · intro h j hj
    unfold firstS at h
    split at h
    · rename_i i _; omega
    · rename_i hn
      rw [List.findIdx?_eq_none_iff] at hn
      have := hn l[j] (List.getElem_mem hj)
      rw [nth_eq hj]; exact this
  · intro h; rw [firstS_none h]; omega
theorem firstS_pos {l : List Root} {nm : ByteArray} {k : Nat} (h : firstS l nm = k) : k < l.length ∧ ((nth l k).name.toList == nm.toList) = true ∧ ∀ j, j < k → ((nth l j).name.toList == nm.toList) = false := by
  unfold firstS at h
  split at h
  · rename_i i hi
    have : i = k := by omega
    subst this
    rw [List.findIdx?_eq_some_iff_getElem] at hi
    obtain ⟨h1, h2, h3⟩ := hi
    refine ⟨h1, by rw [nth_eq h1]; exact h2, fun j hj => ?_⟩
    have := h3 j hj
    rw [nth_eq (by omega)]; simpa using this
  · omega
theorem nth_take {α : Type} [Inhabited α] {l : List α} {i j : Nat} (h : j < i) : nth (l.take i) j = nth l j := by
  simp [nth, List.getD_eq_getElem?_getD, List.getElem?_take, h]
theorem rootOk_iff {l : List Root} {i : Nat} (hi : i < l.length) : rootOk l i = true ↔ isZero (nth l i) = true ∨ (nameS (nth l i).name = true ∧ handleS (nth l i).ix (nth l i).gen = true ∧ ∀ j, j < i → ((nth l j).name.toList == (nth l i).name.toList) = false) := by
  have hf : (!decide (0 ≤ firstS (l.take i) (nth l i).name)) = true ↔ ∀ j, j < i → ((nth l j).name.toList == (nth l i).name.toList) = false := by
    rw [show (!decide (0 ≤ firstS (l.take i) (nth l i).name)) = decide (firstS (l.take i) (nth l i).name < 0) by
      by_cases h : 0 ≤ firstS (l.take i) (nth l i).name
      · simp [h]
      · simp [h]; omega]
    rw [decide_eq_true_eq, firstS_neg]
    have hl : (l.take i).length = i := by simp; omega
    rw [hl]
    constructor
    · intro h j hj; have := h j hj; rwa [nth_take hj] at this
    · intro h j hj; rw [nth_take hj]; exact h j hj
  simp only [rootOk, Bool.or_eq_true, Bool.and_eq_true]
  rw [hf]
  exact or_congr Iff.rfl and_assoc
theorem isZero_name {r : Root} (h : isZero r = true) : r.name.toList = [] := by
  simp [isZero] at h
  have := h.1
  exact this.trans rfl
theorem roots_set {l : List Root} {k : Nat} {r : Root} (hl : rootsS l = true) (hk : k < l.length) (hr : isZero r = true ∨ (nameS r.name = true ∧ handleS r.ix r.gen = true ∧ ∀ j, j < l.length → j ≠ k → ((nth l j).name.toList == r.name.toList) = false)) :
    rootsS (l.set k r) = true := by
  rw [rootsS_iff] at hl ⊢
  refine ⟨fun i hi => ?_, by simpa using hl.2⟩
  have hi' : i < l.length := by simpa using hi
  rw [rootOk_iff hi]
  have hold := (rootOk_iff hi').1 (hl.1 i hi')
  rw [nth_set hk]
  by_cases hik : i = k
  · subst hik
    rw [if_pos rfl]
    rcases hr with hr | ⟨h1, h2, h3⟩
    · exact .inl hr
    · refine .inr ⟨h1, h2, fun j hj => ?_⟩
      rw [nth_set hk, if_neg (by omega)]
      exact h3 j (by omega) (by omega)
  · rw [if_neg hik]
    rcases hold with hz | ⟨h1, h2, h3⟩
    · exact .inl hz
    · refine .inr ⟨h1, h2, fun j hj => ?_⟩
      rw [nth_set hk]
      by_cases hjk : j = k
      · subst hjk
        rw [if_pos rfl]
        rcases hr with hr | ⟨_, _, g3⟩
        · have e := isZero_name hr
          have := (nameS_pos h1).1
          rw [e]
          cases hq : (nth l i).name.toList with
          | nil => exact absurd hq this
          | cons => rfl
        · have := g3 i hi' hik
          rw [Bool.eq_false_iff] at this ⊢
          intro e; apply this
          simp only [beq_iff_eq] at e ⊢
          exact e.symm
      · rw [if_neg hjk]; exact h3 j hj
theorem rootsOk_of {l : List Root} (h : rootsS l = true) : RootsOk l := by
  have h' := rootsS_iff.1 h
  have hn : l.length ≤ 8 := by have := h'.2; simp [newOk] at this; omega
  refine ⟨by omega, fun i hi => ?_⟩
  rcases (rootOk_iff hi).1 (h'.1 i hi) with hz | ⟨h1, _, _⟩
  · have := isZero_name hz
    have e : (nth l i).name.size = 0 := by
      rw [← toList_size, this]; rfl
    omega
  · have := (nameS_pos h1).2; omega
theorem right_ok {a : Abs} (h : rightS a = true) : a.Ok := by
  obtain ⟨h1, h2, h3⟩ := rightS_iff.1 h
  have hr := rootsOk_of h3
  exact ⟨by omega, by omega, hr.h1, fun i hi => by have := h2 i (by omega); omega, hr.h2⟩
theorem findS_ok {l : List Root} {nm : ByteArray} (h : (findS l nm).2 = 0) : rootsS l = true ∧ nameS nm = true ∧ (findS l nm).1 = firstS l nm := by
  unfold findS at h ⊢
  split at h
  · simp at h
  · split at h
    · simp at h
    · rename_i h1 h2
      rw [if_neg h1, if_neg h2]
      exact ⟨by simpa using h1, by simpa using h2, rfl⟩
theorem set_law {l : List Root} {nm : ByteArray} {ix gn : Int} (h : (setS l nm ix gn).2 = 0) : rootsS (setS l nm ix gn).1 = true ∧ (setS l nm ix gn).1.length = l.length := by
  unfold setS at h ⊢
  split at h
  · rename_i q; exact absurd h q
  · rename_i q
    have q : (findS l nm).2 = 0 := by simpa using q
    obtain ⟨h1, h2, h3⟩ := findS_ok q
    split at h
    · simp at h
    · rename_i q2
      split at h
      · simp at h
      · rename_i q3
        rw [if_neg (by simpa using q), if_neg q2, if_neg q3]
        have hok := rootsOk_of h1
        obtain ⟨k, hk, hkl⟩ := slotS_nat hok q (by omega)
        rw [hk]
        refine ⟨roots_set h1 (by simpa using hkl) (.inr ⟨h2, by simpa using q2, fun j hj hjk => ?_⟩), by simp⟩
        simp only [Int.toNat_natCast] at hjk
        by_cases hf : (findS l nm).1 < 0
        · rw [h3] at hf
          exact firstS_neg.1 hf j hj
        · have hs : slotS l nm = firstS l nm := by unfold slotS; rw [if_neg hf, h3]
          have hk' := firstS_pos (hs ▸ hk)
          -- j is another one of the same name: it would not be right
          cases hc : ((nth l j).name.toList == nm.toList) with
          | false => rfl
          | true =>
            exfalso
            have hr := (rootsS_iff.1 h1).1
            have hjn : (nth l j).name.toList = nm.toList := by simpa using hc
            have hkn : (nth l k).name.toList = nm.toList := by simpa using hk'.2.1
            have hne := (nameS_pos h2).1
            rcases Nat.lt_or_gt_of_ne hjk with hlt | hgt
            · have := hk'.2.2 j hlt; rw [hc] at this; cases this
            · rcases (rootOk_iff hj).1 (hr j hj) with hz | ⟨_, _, g3⟩
              · exact hne (hjn ▸ isZero_name hz)
              · have := g3 k hgt; rw [hkn, hjn] at this; simp at this
theorem drop_law {l : List Root} {nm : ByteArray} (h : (dropS l nm).2 = 0) : rootsS (dropS l nm).1 = true ∧ (dropS l nm).1.length = l.length := by
  unfold dropS at h ⊢
  split at h
  · rename_i q; exact absurd h q
  · rename_i q
    have q : (findS l nm).2 = 0 := by simpa using q
    obtain ⟨h1, h2, h3⟩ := findS_ok q
    split at h
    · simp at h
    · rename_i q2
      rw [if_neg (by simpa using q), if_neg q2]
      obtain ⟨k, hk, hkl⟩ := findS_nat (rootsOk_of h1) q (by omega)
      rw [hk]
      exact ⟨roots_set h1 (by simpa using hkl) (.inl (by decide +kernel)), by simp⟩

/-- What the law asks of what is done. -/
structure Keeps (a : Abs) (o : Op) (x : Eff) : Prop where
  right : rightS x.a = true
  gl : x.a.gens.length = a.gens.length
  rl : x.a.roots.length = a.roots.length
  other : ∀ i : Nat, i < a.gens.length → (i : Int) ≠ (if o.act = 1 then x.ix else o.ix) → nth x.a.gens i = nth a.gens i ∧ nth x.a.data i = nth a.data i
  up : ∀ i, i < a.gens.length → nth a.gens i ≤ nth x.a.gens i
  roots : o.act ≠ 6 → o.act ≠ 8 → x.a.roots = a.roots

theorem kind_act {a o} : (kindS a o = 81 → o.act = 1) ∧ (kindS a o = 82 → o.act ≠ 1) ∧ (85 ≤ kindS a o → o.act ≠ 1 ∧ o.act ≠ 6 ∧ o.act ≠ 8) := by
  unfold kindS
  (repeat' split) <;> omega

theorem right_data {a : Abs} (h : rightS a = true) {k : Nat} {b : List UInt8} (hk : k < a.gens.length) (hb : b.length ≤ 2048) : rightS { a with data := a.data.set k b } = true := by
  obtain ⟨h1, h2, h3⟩ := rightS_iff.1 h
  refine rightS_iff.2 ⟨by simpa using h1, fun i hi => ?_, h3⟩
  have := h2 i hi
  refine ⟨this.1, this.2.1, ?_⟩
  simp only
  rw [nth_set (by omega)]
  split
  · exact hb
  · exact this.2.2

theorem keeps_data {a : Abs} {o : Op} (h : rightS a = true) {k : Nat} {b : List UInt8} (hk : k < a.gens.length) (hb : b.length ≤ 2048) {ix gen : Int} {r : List UInt8} (hix : (if o.act = 1 then ix else o.ix) = k) : Keeps a o ⟨{ a with data := a.data.set k b }, ix, gen, r, 0⟩ := by
  have hl := (rightS_iff.1 h).1.1
  refine ⟨right_data h hk hb, rfl, rfl, fun i hi hne => ⟨rfl, ?_⟩, fun i hi => by simp, fun _ _ => rfl⟩
  simp only at hne ⊢
  rw [hix] at hne
  rw [nth_set (by omega), if_neg (by omega)]

theorem allocIx_spec {a : Abs} {i : Nat} (h : allocIx a = some i) : i < a.gens.length ∧ openS a i = true ∧ ∀ j, j < i → openS a j = false := by
  unfold allocIx at h
  rw [List.find?_range_eq_some] at h
  exact ⟨by simpa using h.2.1, h.1, fun j hj => by simpa using h.2.2 j hj⟩

theorem keeps_same {a : Abs} {o : Op} (h : rightS a = true) {ix gen : Int} {r : List UInt8} : Keeps a o ⟨a, ix, gen, r, 0⟩ :=
  ⟨h, rfl, rfl, fun _ _ _ => ⟨rfl, rfl⟩, fun _ _ => Int.le_refl _, fun _ _ => rfl⟩

theorem splice_length {α : Type} {l b : List α} {i : Nat} (h : i + b.length ≤ l.length) : (Go.splice l i b).length = l.length := by simp [Go.splice]; omega

theorem keeps_ok {a : Abs} {o : Op} (hR : rightS a = true) (he : (doS a o).e = 0) : Keeps a o (doS a o) := by
  have hE : (effS a o).e = 0 := by
    unfold doS at he
    rw [if_neg (by simp [hR])] at he
    split at he
    · exact he
    · exact he
  have hd := doS_ok hR hE
  rw [hd]
  clear he hd
  have hl := (rightS_iff.1 hR).1
  have hs := (rightS_iff.1 hR).2.1
  have hka := @kind_act a o
  have good : 85 ≤ kindS a o → ∃ k : Nat, o.ix = k ∧ o.ix.toNat = k ∧ k < a.gens.length ∧ (if o.act = 1 then (0 : Int) else o.ix) = k := fun h => by
    obtain ⟨k, h1, h2, _, _⟩ := goodS_nat (kindS_good h)
    exact ⟨k, h1, by omega, h2, by rw [if_neg (hka.2.2 h).1]; exact h1⟩
  rcases do_cases a o with hk | ⟨hk, ha⟩ | ⟨hk, ha⟩ | ⟨hk, ha⟩ | hk | hk | ⟨hk, hq⟩ | ⟨hk, hq⟩ | hk | ⟨e, h1, hk⟩
  · have hx : effS a o = allocS a o.n := by simp [effS, hk]
    rw [hx] at hE ⊢
    unfold allocS at hE ⊢
    split at hE
    · simp at hE
    · rename_i hsz
      rw [if_neg hsz]
      have hsz : 1 ≤ o.n ∧ o.n ≤ 2048 := by simpa [sizedS] using hsz
      split at hE
      · rename_i i hi
        have := allocIx_spec hi
        exact keeps_data hR this.1 (by simp; omega) (by rw [if_pos (hka.1 hk)])
      · simp at hE
  · have hx : effS a o = ⟨{ a with roots := (setS a.roots o.name o.ix o.gen).1 }, 0, 0, [], (setS a.roots o.name o.ix o.gen).2⟩ := by simp [effS, hk, rootS, ha]
    rw [hx] at hE ⊢
    simp only at hE
    have := set_law hE
    exact ⟨rightS_iff.2 ⟨hl, hs, this.1⟩, rfl, this.2, fun _ _ _ => ⟨rfl, rfl⟩, fun _ _ => Int.le_refl _, fun h => absurd ha h⟩
  · have hx : effS a o = ⟨a, (getS a.roots o.name).1, (getS a.roots o.name).2.1, [], (getS a.roots o.name).2.2⟩ := by simp [effS, hk, rootS, ha]
    rw [hx] at hE ⊢
    exact ⟨hR, rfl, rfl, fun _ _ _ => ⟨rfl, rfl⟩, fun _ _ => Int.le_refl _, fun _ _ => rfl⟩
  · have hx : effS a o = ⟨{ a with roots := (dropS a.roots o.name).1 }, 0, 0, [], (dropS a.roots o.name).2⟩ := by simp [effS, hk, rootS, ha]
    rw [hx] at hE ⊢
    simp only at hE
    have := drop_law hE
    exact ⟨rightS_iff.2 ⟨hl, hs, this.1⟩, rfl, this.2, fun _ _ _ => ⟨rfl, rfl⟩, fun _ _ => Int.le_refl _, fun _ h => absurd ha h⟩
  · obtain ⟨k, e1, e2, e3, e4⟩ := good (by omega)
    have hx : effS a o = freeS a k := by simp [effS, hk, e2]
    rw [hx]
    have hg := hs k e3
    refine ⟨rightS_iff.2 ⟨by simp [freeS]; omega, fun i hi => ?_, (rightS_iff.1 hR).2.2⟩, by simp, rfl, fun i hi hne => ?_, fun i hi => ?_, fun _ _ => rfl⟩
    · have hi' : i < a.gens.length := by simpa using hi
      have := hs i hi'
      simp only [freeS]
      rw [nth_set e3, nth_set (by omega)]
      split
      · refine ⟨?_, ?_, by simp⟩ <;> omega
      · exact this
    · rw [show (freeS a k).ix = 0 from rfl, e4] at hne
      simp only [freeS]
      rw [nth_set e3, nth_set (by omega), if_neg (by omega), if_neg (by omega)]
      exact ⟨rfl, rfl⟩
    · simp only [freeS]
      rw [nth_set e3]
      split
      · rename_i hik; subst hik; omega
      · exact Int.le_refl _
  · obtain ⟨k, e1, e2, e3, e4⟩ := good (by omega)
    have hx : effS a o = resizeS a k o.n := by simp [effS, hk, e2]
    rw [hx] at hE ⊢
    unfold resizeS at hE ⊢
    split at hE
    · simp at hE
    · rename_i hsz
      rw [if_neg hsz]
      have hsz : 1 ≤ o.n ∧ o.n ≤ 2048 := by simpa [sizedS] using hsz
      exact keeps_data hR e3 (by simp; omega) e4
  · obtain ⟨k, e1, e2, e3, e4⟩ := good (by omega)
    have hx : effS a o = readS a k o.off o.n := by simp [effS, hk, e2]
    rw [e2] at hq
    rw [hx]
    unfold readS
    rw [if_neg (by simp [hq])]
    exact keeps_same hR
  · obtain ⟨k, e1, e2, e3, e4⟩ := good (by omega)
    have hx : effS a o = readS a k o.off o.n := by simp [effS, hk, e2]
    rw [e2] at hq
    rw [hx] at hE
    unfold readS at hE
    rw [if_pos hq] at hE
    simp at hE
  · obtain ⟨k, e1, e2, e3, e4⟩ := good (by omega)
    have hx : effS a o = writeS a k o.off o.b := by simp [effS, hk, e2]
    rw [hx] at hE ⊢
    unfold writeS at hE ⊢
    split at hE
    · simp at hE
    · rename_i hsz
      rw [if_neg hsz]
      have hr : 0 ≤ o.off ∧ o.off ≤ (nth a.data k).length ∧ (o.b.length : Int) ≤ (nth a.data k).length - o.off := by simp [reachS] at hsz; omega
      have := hs k e3
      exact keeps_data hR e3 (by rw [splice_length (by omega)]; exact this.2.2) e4
  · have hx : effS a o = ⟨a, 0, 0, [], e⟩ := by
      have h1 : kindS a o ≠ 81 ∧ kindS a o ≠ 82 ∧ kindS a o ≠ 85 ∧ kindS a o ≠ 86 ∧ kindS a o ≠ 87 ∧ kindS a o ≠ 88 := by omega
      unfold effS
      rw [if_neg h1.1, if_neg h1.2.1, if_neg h1.2.2.1, if_neg h1.2.2.2.1, if_neg h1.2.2.2.2.1, if_neg h1.2.2.2.2.2, hk]
      simp
    rw [hx] at hE
    simp only at hE; omega
theorem doS_err {a : Abs} {o : Op} (h : (doS a o).e ≠ 0) : (doS a o).a = zAbs ∧ (doS a o).b = [] := by
  unfold doS at h ⊢
  split
  · exact ⟨rfl, rfl⟩
  · split
    · exact ⟨rfl, rfl⟩
    · rename_i h1 h2
      rw [if_neg h1, if_neg h2] at h
      exact absurd (by simpa using h2) h
theorem sameL_refl {α : Type} [Inhabited α] {eq : α → α → Bool} (h : ∀ x, eq x x = true) (l : List α) : sameL eq l l = true := sameL_good rfl fun i _ => h _
theorem sameAbs_refl (a : Abs) : sameAbs a a = true := by
  simp only [sameAbs, Bool.and_eq_true]
  exact ⟨sameL_refl (by simp) _, sameL_refl (by simp) _, sameL_refl (by simp [sameRoot]) _⟩
theorem conv_snB (objs : List Awp.Obj) (b : List UInt8) : convA Try.prog objs 29 9 (.d (snR 1 vB b)) = some (.d (.v (.string (str b))), objs) := by
  simp [convA, snR, isStrTy, isBytesTy, isIntTy, elemsOf, fullA, bytesD_vB, bytesStr_vB]
end Go.Proofs

set_option maxHeartbeats 1000000
namespace Go.Proofs
open Go.Awp
theorem doS_right {a : Abs} {o : Op} (h : (doS a o).e = 0) : rightS a = true := by
  cases hr : rightS a with
  | true => rfl
  | false => simp [doS, hr, failS] at h
theorem doS_of {a : Abs} {o : Op} (hr : rightS a = true) {x : Eff} (h : effS a o = x) (he : x.e = 0) : doS a o = x := by
  subst h; exact doS_ok hr he
theorem doS_bad {a : Abs} {o : Op} (hr : rightS a = true) (hk : 1 < o.act) (h6 : o.act < 6) (hg : goodS a o.ix o.gen = false) : (doS a o).e = 8 := by
  have hk : kindS a o = -8 := by
    unfold kindS
    rw [if_neg (by omega), if_neg (by omega), if_neg (by omega), if_neg (by omega), if_pos hg]
  have hx : effS a o = ⟨a, 0, 0, [], 8⟩ := by simp [effS, hk]
  rw [doS_fail hr (by rw [hx]; simp), hx]; rfl
theorem kind_good {a : Abs} {o : Op} (hk : 1 < o.act) (h6 : o.act < 6) (hg : goodS a o.ix o.gen = true) : kindS a o = 83 + o.act := by
  unfold kindS
  rw [if_neg (by omega), if_neg (by omega), if_neg (by omega), if_neg (by omega), if_neg (by simp [hg])]
  (repeat' split) <;> omega
/-- An op on an object that is done: its handle was good. -/
theorem done_good {a : Abs} {o : Op} (hk : 1 < o.act) (h6 : o.act < 6) (h : (doS a o).e = 0) : rightS a = true ∧ goodS a o.ix o.gen = true := by
  have hr := doS_right h
  refine ⟨hr, ?_⟩
  cases hg : goodS a o.ix o.gen with
  | true => rfl
  | false => rw [doS_bad hr hk h6 hg] at h; cases h
theorem good_mk {a : Abs} {k : Nat} {gn : Int} (h1 : k < a.gens.length) (h2 : 0 < (nth a.data k).length) (h3 : nth a.gens k = gn) : goodS a k gn = true := by
  simp only [goodS, Int.toNat_natCast, Bool.and_eq_true, decide_eq_true_eq, beq_iff_eq]
  exact ⟨by omega, by omega, by omega, h3⟩

def opW (ix gn off : Int) (b : List UInt8) : Op := ⟨5, ix, gn, 0, off, b, ⟨#[]⟩⟩
def opR (ix gn off n : Int) : Op := ⟨4, ix, gn, n, off, [], ⟨#[]⟩⟩
def opF (ix gn : Int) : Op := ⟨2, ix, gn, 0, 0, [], ⟨#[]⟩⟩

theorem splice_read {α : Type} {l b : List α} {i : Nat} (h : i + b.length ≤ l.length) : ((Go.splice l i b).drop i).take b.length = b := by
  unfold Go.splice
  have e : (l.take i).length = i := by simp; omega
  rw [List.drop_append_of_le_length (by omega), List.drop_eq_nil_of_le (by omega), List.nil_append, List.take_append_of_le_length (by omega), List.take_of_length_le (by omega)]

structure Wrote (a x : Abs) (ix gn off : Int) (b : List UInt8) : Prop where
  right : rightS x = true
  read : doS x (opR ix gn off b.length) = ⟨x, 0, 0, b, 0⟩
  free : (doS x (opF ix gn)).e = 0
  dead : gn ≠ 65535 → ∃ k : Nat, ix = k ∧ k < (doS x (opF ix gn)).a.gens.length ∧ gn < nth (doS x (opF ix gn)).a.gens k

theorem wrote {a : Abs} {ix gn off : Int} {b : List UInt8} (h : (doS a (opW ix gn off b)).e = 0) : Wrote a (doS a (opW ix gn off b)).a ix gn off b := by
  obtain ⟨hr, hg⟩ := done_good (o := opW ix gn off b) (show (1:Int) < 5 by decide) (show (5:Int) < 6 by decide) h
  have hK := keeps_ok hr h
  obtain ⟨k, hix, hk, hpos, hgen⟩ := goodS_nat (ix := ix) (gn := gn) hg
  have hkd : k < a.data.length := by have := (rightS_iff.1 hr).1; omega
  have hknd := kind_good (o := opW ix gn off b) (show (1:Int) < 5 by decide) (show (5:Int) < 6 by decide) hg
  have hE : effS a (opW ix gn off b) = writeS a k off b := by
    have : kindS a (opW ix gn off b) = 88 := hknd
    simp only [effS, this]
    simp [opW, hix]
  have he : (writeS a k off b).e = 0 := by
    have h2 := h
    unfold doS at h2
    rw [if_neg (by simp [hr]), hE] at h2
    split at h2
    · exact h2
    · exact h2
  have hd := doS_of hr hE he
  rw [hd] at hK ⊢
  have hq : reachS (nth a.data k).length off b.length = true := by
    cases hq : reachS (nth a.data k).length off b.length with
    | true => rfl
    | false => unfold writeS at he; rw [if_pos hq] at he; simp at he
  have hx : writeS a k off b = ⟨{ a with data := a.data.set k (Go.splice (nth a.data k) off.toNat b) }, 0, 0, [], 0⟩ := by unfold writeS; rw [if_neg (by simp [hq])]
  have hro : 0 ≤ off ∧ off ≤ (nth a.data k).length ∧ (b.length : Int) ≤ (nth a.data k).length - off := by simp [reachS] at hq; omega
  have hnd : nth (writeS a k off b).a.data k = Go.splice (nth a.data k) off.toNat b := by rw [hx]; simp only; rw [nth_set hkd, if_pos rfl]
  have hlen : (Go.splice (nth a.data k) off.toNat b).length = (nth a.data k).length := splice_length (by omega)
  have hgx : goodS (writeS a k off b).a ix gn = true := by
    rw [hix]
    exact good_mk (by rw [writeS_gens]; exact hk) (by rw [hnd, hlen]; exact hpos) (by rw [writeS_gens]; exact hgen)
  have hte : ix.toNat = k := by omega
  refine ⟨hK.right, ?_, ?_, ?_⟩
  · have hk4 : kindS (writeS a k off b).a (opR ix gn off b.length) = 87 := kind_good (o := opR ix gn off b.length) (show (1:Int) < 4 by decide) (show (4:Int) < 6 by decide) hgx
    refine doS_of hK.right ?_ rfl
    simp only [effS, hk4]
    simp only [opR, hte]
    rw [if_neg (by decide), if_neg (by decide), if_neg (by decide), if_neg (by decide), if_pos trivial]
    unfold readS
    rw [hnd, hlen, if_neg (by simp [hq])]
    rw [Int.toNat_natCast, splice_read (by omega)]
  · have hk2 : kindS (writeS a k off b).a (opF ix gn) = 85 := kind_good (o := opF ix gn) (show (1:Int) < 2 by decide) (show (2:Int) < 6 by decide) hgx
    have : effS (writeS a k off b).a (opF ix gn) = freeS (writeS a k off b).a k := by
      simp only [effS, hk2]; simp [opF, hte]
    rw [doS_of hK.right this rfl]; rfl
  · intro hne
    have hk2 : kindS (writeS a k off b).a (opF ix gn) = 85 := kind_good (o := opF ix gn) (show (1:Int) < 2 by decide) (show (2:Int) < 6 by decide) hgx
    have : effS (writeS a k off b).a (opF ix gn) = freeS (writeS a k off b).a k := by
      simp only [effS, hk2]; simp [opF, hte]
    rw [doS_of hK.right this rfl]
    refine ⟨k, hix, by rw [freeS_gens, writeS_gens]; exact hk, ?_⟩
    have hs := (rightS_iff.1 hr).2.1 k hk
    simp only [freeS, writeS_gens]
    rw [nth_set hk, if_pos rfl, hgen]
    omega

/-- A handle that is good no more. -/
def Gone (y : Abs) (ix gn : Int) : Prop := rightS y = true ∧ (gn ≠ 65535 → ∃ k : Nat, ix = k ∧ k < y.gens.length ∧ gn < nth y.gens k)
theorem gone_free {a x : Abs} {ix gn off : Int} {b : List UInt8} (h : Wrote a x ix gn off b) : Gone (doS x (opF ix gn)).a ix gn := ⟨(keeps_ok h.right h.free).right, h.dead⟩
theorem gone_step {y : Abs} {ix gn : Int} (h : Gone y ix gn) {o : Op} (he : (doS y o).e = 0) : Gone (doS y o).a ix gn := by
  have hK := keeps_ok h.1 he
  refine ⟨hK.right, fun hne => ?_⟩
  obtain ⟨k, h1, h2, h3⟩ := h.2 hne
  exact ⟨k, h1, by rw [hK.gl]; exact h2, by have := hK.up k h2; omega⟩
theorem gone_read {y : Abs} {ix gn : Int} (h : Gone y ix gn) (hne : gn ≠ 65535) : (doS y (opR ix gn 0 0)).e = 8 := by
  obtain ⟨k, h1, h2, h3⟩ := h.2 hne
  refine doS_bad h.1 (show (1:Int) < 4 by decide) (show (4:Int) < 6 by decide) ?_
  simp only [opR, goodS, h1, Int.toNat_natCast]
  have : (nth y.gens k == gn) = false := by simp; omega
  simp [this]
end Go.Proofs
namespace Go.Proofs
open Go.Awp
@[simp] theorem roed_eOp (o : Op) : (eOp o).roed = eOp o := by simp [eOp]
end Go.Proofs
namespace Go.Proofs
instance : Inhabited Op := ⟨⟨0, 0, 0, 0, 0, [], ⟨#[]⟩⟩⟩
end Go.Proofs
namespace Go.Proofs
open Go.Awp
def opA (n : Int) : Op := ⟨1, 0, 0, n, 0, [], ⟨#[]⟩⟩
theorem fill_kind (y : Abs) (n : Int) : effS y (opA n) = allocS y n := by
  have : kindS y (opA n) = 81 := by unfold kindS; exact if_pos rfl
  simp only [effS, this]; rfl
theorem fill_none {y : Abs} {n : Int} (hr : rightS y = true) (hn : 1 ≤ n ∧ n ≤ 2048) (h : allocIx y = none) : (doS y (opA n)).e = 9 := by
  have hE : effS y (opA n) = ⟨y, 0, 0, [], 9⟩ := by
    rw [fill_kind]; unfold allocS
    rw [if_neg (by simp [sizedS, hn]), h]
  rw [doS_fail hr (by rw [hE]; simp), hE]; rfl
theorem fill_some {y : Abs} {n : Int} {i : Nat} (hr : rightS y = true) (hn : 1 ≤ n ∧ n ≤ 2048) (h : allocIx y = some i) : doS y (opA n) = ⟨{ y with data := y.data.set i (List.replicate n.toNat 0) }, i, nth y.gens i, [], 0⟩ := by
  have hE : effS y (opA n) = ⟨{ y with data := y.data.set i (List.replicate n.toNat 0) }, i, nth y.gens i, [], 0⟩ := by
    rw [fill_kind]; unfold allocS
    rw [if_neg (by simp [sizedS, hn]), h]
  exact doS_of hr hE rfl
/-- The least open slot behind k, as far as seen. -/
def Seen1 (y : Abs) (k v : Int) : Prop := (v = -1 ∧ ∀ j : Nat, k < j → j < y.gens.length → openS y j = false) ∨ (∃ j : Nat, v = j ∧ k < j ∧ j < y.gens.length ∧ openS y j = true ∧ ∀ j' : Nat, k < j' → j' < j → openS y j' = false)
theorem seen1_start (y : Abs) : Seen1 y ((y.gens.length : Int) - 1) (-1) := .inl ⟨rfl, fun j h1 h2 => by omega⟩
theorem seen1_open {y : Abs} {k : Nat} {v : Int} (hk : k < y.gens.length) (h : Seen1 y k v) (ho : openS y k = true) : Seen1 y ((k : Int) - 1) k :=
  .inr ⟨k, rfl, by omega, hk, ho, fun j' h1 h2 => by omega⟩
theorem seen1_shut {y : Abs} {k : Nat} {v : Int} (h : Seen1 y k v) (ho : openS y k = false) : Seen1 y ((k : Int) - 1) v := by
  rcases h with ⟨h1, h2⟩ | ⟨j, h1, h2, h3, h4, h5⟩
  · refine .inl ⟨h1, fun j h3 h4 => ?_⟩
    rcases Nat.decEq j k with q | q
    · exact h2 j (by omega) h4
    · subst q; exact ho
  · refine .inr ⟨j, h1, by omega, h3, h4, fun j' h6 h7 => ?_⟩
    rcases Nat.decEq j' k with q | q
    · exact h5 j' (by omega) h7
    · subst q; exact ho
theorem seen1_end {y : Abs} {k v : Int} (hk : k < 0) (h : Seen1 y k v) : (v = -1 ∧ allocIx y = none) ∨ ∃ i : Nat, v = i ∧ allocIx y = some i := by
  rcases h with ⟨h1, h2⟩ | ⟨j, h1, h2, h3, h4, h5⟩
  · exact .inl ⟨h1, allocIx_none fun j hj => h2 j (by omega) hj⟩
  · exact .inr ⟨j, h1, allocIx_at h3 (fun j' h => h5 j' (by omega) h) h4⟩
/-- What holds at the head of each round of filling. -/
structure Fill (y : Abs) (last : Int) (i : Nat) : Prop where
  right : rightS y = true
  low : (i : Int) - 1 ≤ last
  high : last < y.gens.length
  neg : -1 ≤ last
  full : ∀ j : Nat, (j : Int) ≤ last → openS y j = false
theorem fill_next {y : Abs} {last : Int} {i k : Nat} {n : Int} (hF : Fill y last i) (hn : 1 ≤ n ∧ n ≤ 2048) (h : allocIx y = some k) : last < k ∧ Fill { y with data := y.data.set k (List.replicate n.toNat 0) } k (i + 1) := by
  obtain ⟨h1, h2, h3⟩ := allocIx_spec h
  have hl := (rightS_iff.1 hF.right).1.1
  have hlt : last < k := by
    rcases Int.lt_or_le last k with q | q
    · exact q
    · rw [hF.full k q] at h2; cases h2
  have hlow := hF.low
  refine ⟨hlt, right_data hF.right h1 (by simp; omega), by omega, by simp only; omega, by omega, fun j hj => ?_⟩
  simp only [openS]
  rw [nth_set (by omega)]
  split
  · simp; omega
  · rename_i hjk
    have := h3 j (by omega)
    simpa [openS] using this
end Go.Proofs

set_option maxHeartbeats 1000000
namespace Go.Proofs
open Go.Awp
def opZ (ix gn n : Int) : Op := ⟨3, ix, gn, n, 0, [], ⟨#[]⟩⟩
def cutTo (b : List UInt8) (n : Int) : List UInt8 := b.take n.toNat ++ List.replicate (n.toNat - b.length) 0
theorem cutTo_length (b : List UInt8) {n : Int} (h : 1 ≤ n) : (cutTo b n).length = n.toNat := by simp [cutTo]; omega
theorem cutTo_get (b : List UInt8) (n : Int) (i : Nat) (hi : i < n.toNat) : nth (cutTo b n) i = if i < b.length then nth b i else 0 := by
  simp only [cutTo, nth, List.getD_eq_getElem?_getD]
  rw [List.getElem?_append, List.length_take]
  by_cases h : i < b.length
  · rw [if_pos (by omega), if_pos h, List.getElem?_take, if_pos hi]
  · rw [if_neg (by omega), if_neg h, List.getElem?_replicate, if_pos (by omega)]; rfl

/-- What resizing comes to, where it is done. -/
structure Sized (a : Abs) (ix gn n : Int) (x : Eff) : Prop where
  hn : 1 ≤ n ∧ n ≤ 2048
  ra : rightS a = true
  ex : ∃ k : Nat, ix = k ∧ k < a.gens.length ∧ k < a.data.length ∧ 0 < (nth a.data k).length ∧ nth a.gens k = gn ∧ x.a = { a with data := a.data.set k (cutTo (nth a.data k) n) }
  rx : rightS x.a = true

theorem resized {a : Abs} {ix gn n : Int} (h : (doS a (opZ ix gn n)).e = 0) : Sized a ix gn n (doS a (opZ ix gn n)) := by
  obtain ⟨hr, hg⟩ := done_good (o := opZ ix gn n) (show (1:Int) < 3 by decide) (show (3:Int) < 6 by decide) h
  obtain ⟨k, hix, hk, hpos, hgen⟩ := goodS_nat (ix := ix) (gn := gn) hg
  have hkd : k < a.data.length := by have := (rightS_iff.1 hr).1; omega
  have hknd : kindS a (opZ ix gn n) = 86 := kind_good (o := opZ ix gn n) (show (1:Int) < 3 by decide) (show (3:Int) < 6 by decide) hg
  have hE : effS a (opZ ix gn n) = resizeS a k n := by
    simp only [effS, hknd]
    simp [opZ, hix]
  have he : (resizeS a k n).e = 0 := by
    have h2 := h
    unfold doS at h2
    rw [if_neg (by simp [hr]), hE] at h2
    split at h2
    · exact h2
    · exact h2
  have hK := keeps_ok hr h
  have hd := doS_of hr hE he
  have hs : sizedS n = true := by
    cases hs : sizedS n with
    | true => rfl
    | false => unfold resizeS at he; rw [if_pos hs] at he; simp at he
  refine ⟨by simpa [sizedS] using hs, hr, ⟨k, hix, hk, hkd, hpos, hgen, ?_⟩, hK.right⟩
  rw [hd]; unfold resizeS; rw [if_neg (by simp [hs])]; rfl

theorem resize_do {a : Abs} {ix gn n : Int} {k : Nat} (hr : rightS a = true) (hix : ix = k) (hk : k < a.gens.length) (hpos : 0 < (nth a.data k).length) (hg : nth a.gens k = gn) :
    (doS a (opZ ix gn n)).e = if sizedS n = true then 0 else 1 := by
  have hg : goodS a ix gn = true := by rw [hix]; exact good_mk hk hpos hg
  have hknd : kindS a (opZ ix gn n) = 86 := kind_good (o := opZ ix gn n) (show (1:Int) < 3 by decide) (show (3:Int) < 6 by decide) hg
  have hE : effS a (opZ ix gn n) = resizeS a k n := by
    simp only [effS, hknd]
    simp [opZ, hix]
  cases hs : sizedS n with
  | true =>
    have he : (resizeS a k n).e = 0 := by unfold resizeS; rw [if_neg (by simp [hs])]
    rw [doS_of hr hE he, he]; simp
  | false =>
    have he : (resizeS a k n).e = 1 := by unfold resizeS; rw [if_pos hs]
    rw [doS_fail hr (by rw [hE, he]; simp), hE, he]; simp [failS]

/-- Twice against once. -/
structure Twice (a : Abs) (ix gn n m : Int) (x y z : Eff) : Prop where
  hm : 1 ≤ m ∧ m ≤ 2048
  ze : z.e = 0
  ry : rightS y.a = true
  rz : rightS z.a = true
  ex : ∃ k : Nat, ix = k ∧ k < a.data.length ∧ x.a.data.length = a.data.length ∧ y.a.data.length = a.data.length ∧ z.a.data.length = a.data.length ∧ nth x.a.data k = cutTo (nth a.data k) n ∧
    nth y.a.data k = cutTo (cutTo (nth a.data k) n) m ∧ nth z.a.data k = cutTo (nth a.data k) m ∧ ((¬ n < (nth a.data k).length ∨ ¬ n < m) → y.a = z.a)

theorem cutTo_twice (b : List UInt8) {n m : Int} (hn : 1 ≤ n) (hm : 1 ≤ m) (h : ¬ n < b.length ∨ ¬ n < m) : cutTo (cutTo b n) m = cutTo b m := by
  apply List.ext_getElem?
  intro i
  have e1 := cutTo_length (cutTo b n) hm
  have e2 := cutTo_length b hm
  have e3 := cutTo_length b hn
  by_cases hi : i < m.toNat
  · have g : ∀ l : List UInt8, l.length = m.toNat → l[i]? = some (nth l i) := fun l hl => get_some (by omega)
    rw [g _ e1, g _ e2, cutTo_get _ _ _ hi, cutTo_get _ _ _ hi, e3]
    congr 1
    by_cases hin : i < n.toNat
    · rw [if_pos hin, cutTo_get _ _ _ hin]
    · rw [if_neg hin, if_neg (by omega)]
  · rw [List.getElem?_eq_none (by omega), List.getElem?_eq_none (by omega)]

theorem twice {a : Abs} {ix gn n m : Int} (h1 : (doS a (opZ ix gn n)).e = 0) (h2 : (doS (doS a (opZ ix gn n)).a (opZ ix gn m)).e = 0) :
    Twice a ix gn n m (doS a (opZ ix gn n)) (doS (doS a (opZ ix gn n)).a (opZ ix gn m)) (doS a (opZ ix gn m)) := by
  have hx := resized h1
  have hy := resized h2
  obtain ⟨k, hix, hk, hkd, hpos, hg, hxa⟩ := hx.ex
  obtain ⟨k', hix', hk', hkd', _, _, hya⟩ := hy.ex
  obtain rfl : k' = k := by omega
  have hz0 : (doS a (opZ ix gn m)).e = 0 := by rw [resize_do hx.ra hix hk hpos hg, if_pos (by simp [sizedS, hy.hn])]
  have hz := resized hz0
  obtain ⟨k2, hix2, _, _, _, _, hza⟩ := hz.ex
  obtain rfl : k2 = k' := by omega
  have ex1 : nth (doS a (opZ ix gn n)).a.data k2 = cutTo (nth a.data k2) n := by rw [hxa]; simp only; rw [nth_set hkd, if_pos rfl]
  refine ⟨hy.hn, hz0, hy.rx, hz.rx, k2, hix, hkd, by rw [hxa]; simp, by rw [hya]; simp; rw [hxa]; simp, by rw [hza]; simp, ex1, ?_, ?_, fun hor => ?_⟩
  · rw [hya]; simp only; rw [nth_set hkd', if_pos rfl, ex1]
  · rw [hza]; simp only; rw [nth_set hkd, if_pos rfl]
  · rw [hya, hza, ex1, cutTo_twice _ hx.hn.1 hy.hn.1 hor, hxa]
    simp
theorem resize_errs {a : Abs} {ix gn n m : Int} (h1 : (doS a (opZ ix gn n)).e = 0) (h2 : (doS (doS a (opZ ix gn n)).a (opZ ix gn m)).e ≠ 0) : (doS (doS a (opZ ix gn n)).a (opZ ix gn m)).e = 1 ∧ (doS a (opZ ix gn m)).e = 1 := by
  have hx := resized h1
  obtain ⟨k, hix, hk, hkd, hpos, hg, hxa⟩ := hx.ex
  have e1 : (doS a (opZ ix gn m)).e = if sizedS m = true then 0 else 1 := resize_do hx.ra hix hk hpos hg
  have e2 : (doS (doS a (opZ ix gn n)).a (opZ ix gn m)).e = if sizedS m = true then 0 else 1 := resize_do hx.rx hix (by rw [hxa]; exact hk) (by rw [hxa]; simp only; rw [nth_set hkd, if_pos rfl, cutTo_length _ hx.hn.1]; have := hx.hn.1; omega) (by rw [hxa]; exact hg)
  rw [e2] at h2 ⊢
  rw [e1]
  split at h2
  · simp at h2
  · rename_i hs; rw [if_neg hs]; exact ⟨rfl, rfl⟩
end Go.Proofs
namespace Go.Proofs
open Go.Awp
theorem do_ok (a : Abs) (o : Op) : (doS a o).a.Ok := by
  by_cases h : (doS a o).e = 0
  · exact right_ok (keeps_ok (doS_right h) h).right
  · rw [(doS_err h).1]; exact ⟨by decide, by decide, by decide, by simp [zAbs], by simp [zAbs]⟩
theorem vB_ne {x y : UInt8} (h : x = y) : ((x.toNat : Int) != (y.toNat : Int)) = false := by simp [h]
end Go.Proofs

set_option maxHeartbeats 1000000
namespace Go.Proofs
open Go.Awp
structure Shape where
  pages : Int
  slots : Int
  roots : Int
  room : Int
  deriving Inhabited
def eShape (s : Shape) : D := .agg [vI s.pages, vI s.slots, vI s.roots, vI s.room]
structure Slot where
  gen : Int
  live : Bool
  two : Bool
  at_ : Int
  len : Int
  deriving Inhabited
abbrev vT (b : Bool) : D := .v (.bool b)
def eSlot (s : Slot) : D := .agg [vI s.gen, vT s.live, vT s.two, vI s.at_, vI s.len]
abbrev rSl (x : List Slot) : D := rows 5 eSlot x
abbrev oSl (x : List Slot) : D := ownR 5 eSlot x
@[simp] theorem roed_eSlot (s : Slot) : (eSlot s).roed = eSlot s := by simp [eSlot]
@[simp] theorem snap_eSlot (s : Slot) : (eSlot s).snap = eSlot s := by simp [eSlot]
@[simp] theorem noRo_eSlot (s : Slot) : (eSlot s).noRo = true := by simp [eSlot]
@[simp] theorem noSn_eSlot (s : Slot) : (eSlot s).noSn = true := by simp [eSlot]
@[simp] theorem noOwn_eSlot (s : Slot) : (eSlot s).noOwn = true := by simp [eSlot]
def wordsL : List Int := [2, 3, 5, 7, 10, 15]
theorem impAs_vI {objs : List Awp.Obj} (l : List Int) : impAs objs (l.map vI) = some (l.map fun n => .d (vI n), objs) := by
  induction l with
  | nil => rfl
  | cons a l ih => simp [impAs, impA, ih]
theorem noRos_vI (l : List Int) : (l.map vI).all D.noRo = true := by simp
theorem noSns_vI (l : List Int) : (l.map vI).all D.noSn = true := by simp
def upS (n : Int) : Int := (n + 4 - 1).tdiv 4 * 4
def needS (n : Int) : Int × Int := if n < 1 ∨ 2048 < n then (0, 1) else (upS (2 + (n + 8 - 1).tdiv 8), 0)
def classS (n : Int) : Int × Bool := if n < 1 ∨ 120 < n then (0, false) else match wordsL.findIdx? (fun w => decide (n ≤ w * 8)) with
  | some i => (i, true)
  | none => (0, false)
def whichS (c off : Int) : Int × Bool := if c < 0 ∨ 6 ≤ c ∨ off < 4 then (0, false)
  else if (off - 4).tmod (nth wordsL c.toNat) ≠ 0 ∨ (28 : Int).tdiv (nth wordsL c.toNat) ≤ (off - 4).tdiv (nth wordsL c.toNat) then (0, false) else ((off - 4).tdiv (nth wordsL c.toNat), true)
def pagesS (n : Int) : Int × Int := if n ≤ 120 ∨ 2048 < n then (0, 1) else ((n + 256 - 1).tdiv 256, 0)
def sizedSh (s : Shape) : Bool := decide (1 ≤ s.pages ∧ s.pages ≤ 64 ∧ 1 ≤ s.room ∧ s.room ≤ 4096 ∧ 2 ≤ s.slots ∧ s.slots ≤ 32 ∧ s.slots.tmod 2 = 0 ∧ 2 ≤ s.roots ∧ s.roots ≤ 8 ∧ s.roots.tmod 2 = 0)
def walS (mark first room n : Int) : Bool := decide (1 ≤ room ∧ room ≤ 4096 ∧ 0 ≤ first ∧ first ≤ n ∧ 2 * room ≤ n - first ∧ 0 ≤ mark ∧ mark < n ∧ (mark < first ∨ 2 * room ≤ mark - first))
def headsS (s : Shape) : Int := 2 + s.room * 2
def tableA (s : Shape) : Int := headsS s + 1
def rootsA (s : Shape) : Int := tableA s + s.slots.tdiv 2
def treeA (s : Shape) : Int := rootsA s + s.roots.tdiv 2
def heapA (s : Shape) : Int := treeA s + 26
def linesA (s : Shape) : Int := heapA s + s.pages * 4
def shapeS (s : Shape) : Bool := sizedSh s && decide (linesA s ≤ 4096)
def superS (s : Shape) (mode base : Int) : Bool := shapeS s && decide (0 ≤ base ∧ base ≤ s.pages) && (if mode = 1 then decide (base = 0) else if mode = 2 then decide (base = s.pages) else decide (mode = 3 ∨ mode = 4))
def slotS1 (s : Slot) : Bool := if s.gen < 0 ∨ 65535 < s.gen then false else if s.live = false then (s.two == false && s.at_ == 0 && s.len == 0) else decide (0 ≤ s.at_ ∧ s.at_ ≤ 2048 ∧ 1 ≤ s.len ∧ s.len ≤ 2048)
def tnewOk (n : Int) : Bool := decide (2 ≤ n ∧ n ≤ 32 ∧ n.tmod 2 = 0)
def zSlot : Slot := ⟨0, false, false, 0, 0⟩
def tableS (l : List Slot) : Bool := (List.range l.length).all (fun i => slotS1 (nth l i)) && tnewOk l.length
end Go.Proofs

set_option maxHeartbeats 1000000
namespace Go.Proofs
open Go.Awp
structure Stt where
  sh : Shape
  mode : Int
  base : Int
  slots : List Slot
  roots : List Root
  data : List (List UInt8)
def eStt (s : Stt) : D := .agg [vI s.sh.pages, vI s.sh.slots, vI s.sh.roots, vI s.sh.room, vI s.mode, vI s.base, rSl s.slots, rR s.roots, rBB s.data]
structure Stt.Ok (s : Stt) : Prop where
  h1 : s.slots.length ≤ 2^40
  h2 : s.roots.length ≤ 2^40
  h3 : s.data.length ≤ 2^40
  h4 : ∀ i, i < s.data.length → (nth s.data i).length ≤ 2^40
  h5 : ∀ i, i < s.roots.length → (nth s.roots i).name.size ≤ 2^40
def eObj (p : Int × Int) : D := .agg [vI p.1, vI p.2]
@[simp] theorem roed_eObj (s) : (eObj s).roed = eObj s := by simp [eObj]
@[simp] theorem snap_eObj (s) : (eObj s).snap = eObj s := by simp [eObj]
@[simp] theorem noRo_eObj (s) : (eObj s).noRo = true := by simp [eObj]
@[simp] theorem noSn_eObj (s) : (eObj s).noSn = true := by simp [eObj]
@[simp] theorem noOwn_eObj (s) : (eObj s).noOwn = true := by simp [eObj]
abbrev rO (x : List (Int × Int)) : D := rows 2 eObj x
abbrev oO (x : List (Int × Int)) : D := ownR 2 eObj x
def isTwo (s : Slot) : Bool := s.live && s.two
def twoIx (l : List Slot) (i : Nat) : List Nat := (List.range i).filter fun j => isTwo (nth l j)
theorem twoIx_t {l : List Slot} {i : Nat} (h : isTwo (nth l i) = true) : twoIx l (i + 1) = twoIx l i ++ [i] := by simp [twoIx, List.range_succ, List.filter_append, h]
theorem twoIx_f {l : List Slot} {i : Nat} (h : isTwo (nth l i) = false) : twoIx l (i + 1) = twoIx l i := by simp [twoIx, List.range_succ, List.filter_append, h]
theorem twoIx_len {l : List Slot} {i : Nat} : (twoIx l i).length ≤ i := by
  have := List.length_filter_le (fun j => isTwo (nth l j)) (List.range i)
  simpa [twoIx] using this
def objAt (l : List Slot) (j : Nat) : Int × Int := ((nth l j).at_, (nth l j).len)
def twosO (l : List Slot) : List (Int × Int) := (twoIx l l.length).map (objAt l)
def twosI (l : List Slot) : List Int := (twoIx l l.length).map fun (j : Nat) => (j : Int)
def liveIx (l : List Slot) (i : Nat) : Nat := ((List.range i).filter fun j => (nth l j).live).length
theorem liveIx_s {l : List Slot} {i : Nat} : liveIx l (i + 1) = liveIx l i + (if (nth l i).live then 1 else 0) := by
  simp only [liveIx, List.range_succ, List.filter_append, List.length_append]
  cases h : (nth l i).live <;> simp [h]
theorem liveIx_le {l : List Slot} {i : Nat} : liveIx l i ≤ i := by
  have := List.length_filter_le (fun j => (nth l j).live) (List.range i)
  simpa [liveIx] using this
def lenOk (s : Stt) (i : Nat) : Bool := decide (((nth s.data i).length : Int) = (nth s.slots i).len)
def rowsS (s : Stt) : Bool := decide ((s.slots.length : Int) = s.sh.slots ∧ (s.roots.length : Int) = s.sh.roots ∧ s.data.length = s.slots.length) && (tableS s.slots && (rootsS s.roots && (List.range s.slots.length).all (lenOk s)))
def gapBad (to at_ : Int) (p : Int × Int) : Bool := decide (p.1 < at_ ∨ to < p.1 ∨ p.2 < 4 ∨ to - p.1 < p.2 ∨ p.1.tmod 4 ≠ 0 ∨ p.2.tmod 4 ≠ 0)
def gapsOk (to : Int) : Int → List (Int × Int) → Bool
  | _, [] => true
  | at_, p :: l => !gapBad to at_ p && gapsOk to (p.1 + p.2) l
def gapsHead (fr to : Int) : Bool := decide (0 ≤ fr ∧ fr ≤ to ∧ to ≤ 2048 ∧ fr.tmod 4 = 0 ∧ to.tmod 4 = 0)
def gapsS (fr to : Int) (l : List (Int × Int)) : Bool := gapsHead fr to && gapsOk to fr l
theorem gapsOk_drop {to at_ : Int} {l : List (Int × Int)} {i : Nat} (h : i < l.length) : gapsOk to at_ (l.drop i) = (!gapBad to at_ (nth l i) && gapsOk to ((nth l i).1 + (nth l i).2) (l.drop (i + 1))) := by
  rw [List.drop_eq_getElem_cons h, nth_eq h]; rfl
end Go.Proofs

namespace Go.Proofs
open Go.Awp
theorem op4 : Opens Try.prog 4 fun b : Bool => [vT b] := opens_bool Try.underlying4
theorem op49 : Opens Try.prog 49 fun s : Shape => [vI s.pages, vI s.slots, vI s.roots, vI s.room] :=
  (opens_struct (n := 4) Try.underlying49 (by kernel_rfl) (fs_cons rfl (size := 1) (by kernel_rfl) op3 (fs_cons rfl (size := 1) (by kernel_rfl) op3 (fs_cons rfl (size := 1) (by kernel_rfl) op3 (fs_cons rfl (size := 1) (by kernel_rfl) op3 (fs_nil (by decide))))))).map (fun p => ⟨p.1, p.2.1, p.2.2.1, p.2.2.2.1⟩) fun _ => rfl
theorem op60 : Opens Try.prog 60 fun s : Slot => [vI s.gen, vT s.live, vT s.two, vI s.at_, vI s.len] :=
  (opens_struct (n := 5) Try.underlying60 (by kernel_rfl) (fs_cons rfl (size := 1) (by kernel_rfl) op3 (fs_cons rfl (size := 1) (by kernel_rfl) op4 (fs_cons rfl (size := 1) (by kernel_rfl) op4 (fs_cons rfl (size := 1) (by kernel_rfl) op3 (fs_cons rfl (size := 1) (by kernel_rfl) op3 (fs_nil (by decide)))))))).map (fun p => ⟨p.1, p.2.1, p.2.2.1, p.2.2.2.1, p.2.2.2.2.1⟩) fun _ => rfl
theorem op50 : Opens Try.prog 50 fun l : List Slot => [rSl l] := opens_slice (k := 5) (f := eSlot) Try.underlying50 (by kernel_rfl) (by decide) op60 (fun _ => rfl) (fun _ => ⟨rfl, by simp [eSlot, D.cells, D.isCell]⟩)
theorem op52 : Opens Try.prog 52 fun s : Stt => [vI s.sh.pages, vI s.sh.slots, vI s.sh.roots, vI s.sh.room, vI s.mode, vI s.base, rSl s.slots, rR s.roots, rBB s.data] :=
  (opens_struct (n := 9) Try.underlying52 (by kernel_rfl) (fs_cons rfl (size := 4) (by kernel_rfl) op49 (fs_cons rfl (size := 1) (by kernel_rfl) op3 (fs_cons rfl (size := 1) (by kernel_rfl) op3 (fs_cons rfl (size := 1) (by kernel_rfl) op50 (fs_cons rfl (size := 1) (by kernel_rfl) op24 (fs_cons rfl (size := 1) (by kernel_rfl) op23 (fs_nil (by decide))))))))).map (fun p => ⟨p.1, p.2.1, p.2.2.1, p.2.2.2.1, p.2.2.2.2.1, p.2.2.2.2.2.1⟩) fun _ => rfl
end Go.Proofs

set_option maxHeartbeats 1000000
namespace Go.Proofs
open Go.Awp
structure Spot where
  page : Int
  count : Int
  small : Bool
  cls : Int
  cell : Int
  deriving Inhabited
def eSpot (s : Spot) : D := .agg [vI s.page, vI s.count, vT s.small, vI s.cls, vI s.cell]
@[simp] theorem roed_eSpot (s) : (eSpot s).roed = eSpot s := by simp [eSpot]
@[simp] theorem snap_eSpot (s) : (eSpot s).snap = eSpot s := by simp [eSpot]
@[simp] theorem noRo_eSpot (s) : (eSpot s).noRo = true := by simp [eSpot]
@[simp] theorem noSn_eSpot (s) : (eSpot s).noSn = true := by simp [eSpot]
@[simp] theorem noOwn_eSpot (s) : (eSpot s).noOwn = true := by simp [eSpot]
/-- the pages that an object stands on, and whether it may stand there -/
def spotS (pages : Int) (o : Int × Int) : Spot × Bool :=
  if o.1 < 0 then (⟨0, 0, false, 0, 0⟩, false)
  else if (classS o.2).2 then
    let w := whichS (classS o.2).1 (o.1.tmod 32)
    (⟨o.1.tdiv 32, 1, true, (classS o.2).1, w.1⟩, w.2 && decide (o.1.tdiv 32 < pages))
  else (⟨o.1.tdiv 32, (pagesS o.2).1, false, (classS o.2).1, 0⟩,
    decide ((pagesS o.2).2 = 0) && decide (o.1.tmod 32 = 0) && decide (o.1.tdiv 32 < pages) && decide ((pagesS o.2).1 ≤ pages - o.1.tdiv 32))
end Go.Proofs

namespace Go.Proofs
open Go.Awp
section
variable {α : Type} [Inhabited α] (lt : α → α → Bool)
/-- Two elements change their places. -/
def swp (l : List α) (i j : Nat) : List α := if i < l.length ∧ j < l.length then (l.set i (nth l j)).set j (nth l i) else l
def sink (a : Nat) : Nat → List α → List α
  | 0, l => l
  | j + 1, l => if a < j + 1 ∧ lt (nth l (j + 1)) (nth l j) = true then sink a j (swp l (j + 1) j) else l
def insF (a : Nat) : Nat → Nat → List α → List α
  | 0, _, l => l
  | k + 1, i, l => insF a k (i + 1) (sink lt a i l)
def insS (a b : Nat) (l : List α) : List α := insF lt a (b - (a + 1)) (a + 1) l
def swrF (a b : Nat) : Nat → Nat → List α → List α
  | 0, _, l => l
  | k + 1, i, l => swrF a b k (i + 1) (swp l (a + i) (b + i))
def swr (a b n : Nat) (l : List α) : List α := swrF a b n 0 l
def rotF (m : Nat) : Nat → Nat → Nat → List α → List α
  | 0, _, _, l => l
  | f + 1, i, j, l => if i = j then swr (m - i) m i l else if j < i then rotF m f (i - j) j (swr (m - i) m j l) else rotF m f i (j - i) (swr (m - i) (m + j - i) i l)
def rotS (a m b : Nat) (l : List α) : List α := rotF m (m - a + (b - m)) (m - a) (b - m) l
def bsF (p : Nat → Bool) : Nat → Nat → Nat → Nat
  | 0, i, _ => i
  | f + 1, i, j => if i < j then (if p ((i + j) / 2) = true then bsF p f ((i + j) / 2 + 1) j else bsF p f i ((i + j) / 2)) else i
def bsS (p : Nat → Bool) (i j : Nat) : Nat := bsF p (j - i) i j
def upF : Nat → Nat → List α → List α
  | 0, _, l => l
  | k + 1, i, l => upF k (i + 1) (swp l i (i + 1))
def dnF : Nat → Nat → List α → List α
  | 0, _, l => l
  | k + 1, i, l => dnF k (i - 1) (swp l i (i - 1))
def symF : Nat → Nat → Nat → Nat → List α → List α
  | 0, _, _, _, l => l
  | f + 1, a, m, b, l =>
    if m - a = 1 then (let i := bsS (fun h => lt (nth l h) (nth l a)) m b; upF (i - 1 - a) a l)
    else if b - m = 1 then (let i := bsS (fun h => !lt (nth l m) (nth l h)) a m; dnF (m - i) m l)
    else
      let mid := (a + b) / 2
      let n := mid + m
      let s0 := if mid < m then n - b else a
      let r0 := if mid < m then mid else m
      let st := bsS (fun c => !lt (nth l (n - 1 - c)) (nth l c)) s0 r0
      let en := n - st
      let l1 := if st < m ∧ m < en then rotS st m en l else l
      let l2 := if a < st ∧ st < mid then symF f a st mid l1 else l1
      if mid < en ∧ en < b then symF f mid en b l2 else l2
def stableS (l : List α) : List α :=
  if l.length < 20 then insS lt 0 l.length l
  else
    let l2 := insS lt 20 l.length (insS lt 0 20 l)
    if l.length = 20 then l2 else symF lt l.length 0 20 l.length l2

theorem swp_len (l : List α) (i j : Nat) : (swp l i j).length = l.length := by unfold swp; split <;> simp
theorem swp_perm (l : List α) (i j : Nat) : (swp l i j).Perm l := by
  unfold swp
  split
  · rename_i h
    obtain ⟨hi, hj⟩ := h
    rw [nth_eq hi, nth_eq hj]
    exact List.set_set_perm hi hj
  · exact .refl _
theorem sink_perm (a : Nat) : ∀ (j : Nat) (l : List α), (sink lt a j l).Perm l
  | 0, l => .refl _
  | j + 1, l => by
    unfold sink
    split
    · exact (sink_perm a j _).trans (swp_perm ..)
    · exact .refl _
theorem insF_perm (a : Nat) : ∀ (k i : Nat) (l : List α), (insF lt a k i l).Perm l
  | 0, _, l => .refl _
  | k + 1, i, l => (insF_perm a k (i + 1) _).trans (sink_perm lt a i l)
theorem swrF_perm (a b : Nat) : ∀ (k i : Nat) (l : List α), (swrF a b k i l).Perm l
  | 0, _, l => .refl _
  | k + 1, i, l => (swrF_perm a b k (i + 1) _).trans (swp_perm ..)
theorem swr_perm (a b n : Nat) (l : List α) : (swr a b n l).Perm l := swrF_perm a b n 0 l
theorem rotF_perm (m : Nat) : ∀ (f i j : Nat) (l : List α), (rotF m f i j l).Perm l
  | 0, _, _, l => .refl _
  | f + 1, i, j, l => by
    unfold rotF
    split
    · exact swr_perm ..
    · split
      · exact (rotF_perm m f _ _ _).trans (swr_perm ..)
      · exact (rotF_perm m f _ _ _).trans (swr_perm ..)
theorem upF_perm : ∀ (k i : Nat) (l : List α), (upF k i l).Perm l
  | 0, _, l => .refl _
  | k + 1, i, l => (upF_perm k (i + 1) _).trans (swp_perm ..)
theorem dnF_perm : ∀ (k i : Nat) (l : List α), (dnF k i l).Perm l
  | 0, _, l => .refl _
  | k + 1, i, l => (dnF_perm k (i - 1) _).trans (swp_perm ..)
theorem symF_perm : ∀ (f a m b : Nat) (l : List α), (symF lt f a m b l).Perm l
  | 0, _, _, _, l => .refl _
  | f + 1, a, m, b, l => by
    unfold symF
    split
    · exact upF_perm ..
    · split
      · exact dnF_perm ..
      · have h1 : ∀ (c : Prop) [Decidable c] (x y z : List α), (c → x.Perm z) → (¬ c → y.Perm z) → (if c then x else y).Perm z := fun c _ x y z hx hy => by
          split
          · exact hx ‹_›
          · exact hy ‹_›
        simp only
        refine h1 _ _ _ _ (fun _ => (symF_perm f _ _ _ _).trans ?_) (fun _ => ?_) <;>
        refine h1 _ _ _ _ (fun _ => (symF_perm f _ _ _ _).trans ?_) (fun _ => ?_) <;>
        exact h1 _ _ _ _ (fun _ => rotF_perm ..) (fun _ => .refl _)
theorem stableS_perm (l : List α) : (stableS lt l).Perm l := by
  unfold stableS
  split
  · exact insF_perm ..
  · simp only
    split
    · exact (insF_perm ..).trans (insF_perm ..)
    · exact (symF_perm ..).trans ((insF_perm ..).trans (insF_perm ..))
end
theorem bsF_le (p : Nat → Bool) : ∀ (f i j : Nat), i ≤ j → i ≤ bsF p f i j ∧ bsF p f i j ≤ j
  | 0, i, j, h => ⟨Nat.le_refl _, h⟩
  | f + 1, i, j, h => by
    unfold bsF
    split
    · split
      · have := bsF_le p f ((i + j) / 2 + 1) j (by omega)
        omega
      · have := bsF_le p f i ((i + j) / 2) (by omega)
        omega
    · exact ⟨Nat.le_refl _, h⟩
theorem bsF_end {p : Nat → Bool} {f i j : Nat} (h : j ≤ i) : bsF p f i j = i := by
  cases f with
  | zero => rfl
  | succ f => unfold bsF; rw [if_neg (by omega)]
theorem bsF_t {p : Nat → Bool} {f i j : Nat} (h : i < j) (hp : p ((i + j) / 2) = true) : bsF p (f + 1) i j = bsF p f ((i + j) / 2 + 1) j := by
  conv => lhs; unfold bsF
  rw [if_pos h, if_pos hp]
theorem bsF_f {p : Nat → Bool} {f i j : Nat} (h : i < j) (hp : p ((i + j) / 2) = false) : bsF p (f + 1) i j = bsF p f i ((i + j) / 2) := by
  conv => lhs; unfold bsF
  rw [if_pos h, if_neg (by simp [hp])]
theorem bsS_le {p : Nat → Bool} {i j : Nat} (h : i ≤ j) : i ≤ bsS p i j ∧ bsS p i j ≤ j := bsF_le p _ i j h
theorem symF_gen {α : Type} [Inhabited α] {lt : α → α → Bool} {f a m b : Nat} {l : List α} (k1 : ¬ m - a = 1) (k2 : ¬ b - m = 1) {mid N p s0 r0 st en : Nat} (hmid : mid = (a + b) / 2) (hN : N = mid + m) (hp : p = N - 1)
    (hs0 : s0 = if mid < m then N - b else a) (hr0 : r0 = if mid < m then mid else m) (hst : bsS (fun c => !lt (nth l (p - c)) (nth l c)) s0 r0 = st) (hen : en = N - st) :
    symF lt (f + 1) a m b l = (let l1 := if st < m ∧ m < en then rotS st m en l else l
      let l2 := if a < st ∧ st < mid then symF lt f a st mid l1 else l1
      if mid < en ∧ en < b then symF lt f mid en b l2 else l2) := by
  subst hen hst hs0 hr0 hp hN hmid
  conv => lhs; unfold symF
  rw [if_neg k1, if_neg k2]
end Go.Proofs

namespace Go.Proofs
open Go.Awp
structure Blk where
  at_ : Int
  len : Int
  slot : Int
  deriving Inhabited
def eBlk (b : Blk) : D := .agg [vI b.at_, vI b.len, vI b.slot]
@[simp] theorem roed_eBlk (s) : (eBlk s).roed = eBlk s := by simp [eBlk]
@[simp] theorem snap_eBlk (s) : (eBlk s).snap = eBlk s := by simp [eBlk]
@[simp] theorem noRo_eBlk (s) : (eBlk s).noRo = true := by simp [eBlk]
@[simp] theorem noSn_eBlk (s) : (eBlk s).noSn = true := by simp [eBlk]
@[simp] theorem noOwn_eBlk (s) : (eBlk s).noOwn = true := by simp [eBlk]
abbrev rBk (x : List Blk) : D := rows 3 eBlk x
abbrev oBk (x : List Blk) : D := ownR 3 eBlk x
def cmpI (a b : Int) : Int := if a < b then -1 else if b < a then 1 else 0
def ltB (x y : Blk) : Bool := decide (cmpI x.at_ y.at_ < 0)
theorem set_eBlk {l : List Blk} {k : Nat} {x : Blk} : (l.map eBlk).set k (D.agg [vI x.at_, vI x.len, vI x.slot]) = (l.set k x).map eBlk := by rw [List.map_set]; rfl
theorem wrapU {n : Int} (h0 : 0 ≤ n) (h : n < 2^63) : IntKind.u64.wrap n = n := by
  simp only [IntKind.wrap, IntKind.signed, IntKind.bits]
  simp
  omega
end Go.Proofs
