/- TextMovesCardSaid: part 26 of the texts behind it: Kn8. No premise of its own. -/
import Derived.Test.YtpfjeinhmmmhkaaGreatDoorD25
set_option linter.all false
section
namespace Go.Det.Sea
open Go Go.Det
def ke187 : KE := ⟨72, [.ptr 38 6 0 0], [.box [.str [49, 43, 70, 79, 79, 40, 50, 41], .int .i64 1, .int .i64 1, .int .i64 2, .int .i64 0, .int .i64 0]], nz 0 0 .nilsl, [.box [.str [49, 43, 70, 79, 79, 40, 50, 41], .int .i64 1, .int .i64 1, .int .i64 5, .int .i64 3, .int .i64 2]]⟩
theorem kq187 (n : Int) : KG n ke187 := kg n [ke186] ⟨kq186 n, trivial⟩ (by kernel_rfl) (by kernel_rfl)
def ke188 : KE := ⟨35, [.ptr 34 6 0 0, .int .i64 3], [.box [.str [49, 43, 70, 79, 79, 40, 50, 41], .int .i64 1, .int .i64 1, .int .i64 0, .int .i64 0, .int .i64 0]], nz 8 1 (.psl 18 [nd 1 1 1 0 [] false 0 0 0 false false 0 0 false false 0 0 .nilsl, nz 0 0 .nilsl]), [.box [.str [49, 43, 70, 79, 79, 40, 50, 41], .int .i64 1, .int .i64 1, .int .i64 5, .int .i64 3, .int .i64 2]]⟩
theorem kq188 (n : Int) : KG n ke188 := kg n [ke182, ke187] ⟨kq182 n, kq187 n, trivial⟩ (by kernel_rfl) (by kernel_rfl)
def ke189 : KE := ⟨15, [.str [49, 43, 70, 79, 79, 40, 50, 41], .agg [.int .i64 1, .int .i64 1]], [], .tup [nz 0 0 .nilsl, .int .i64 2, .int .i64 3], []⟩
theorem kq189 (n : Int) : KG n ke189 := kg n [ke0, ke188] ⟨kq0 n, kq188 n, trivial⟩ (by kernel_rfl) (by kernel_rfl)
def ke190 : KE := ⟨111, [.ptr 41 6 0 0, .str [48, 49, 50, 51, 52, 53, 54, 55, 56, 57, 46]], [.box [.str [49, 32, 50], .int .i64 1, .int .i64 1, .int .i64 0, .int .i64 0, .int .i64 0]], .str [49], [.box [.str [49, 32, 50], .int .i64 1, .int .i64 1, .int .i64 1, .int .i64 0, .int .i64 0]]⟩
theorem kq190 (n : Int) : KG n ke190 := kg n [ke1] ⟨kq1 n, trivial⟩ (by kernel_rfl) (by kernel_rfl)
def ke191 : KE := ⟨72, [.ptr 38 6 0 0], [.box [.str [49, 32, 50], .int .i64 1, .int .i64 1, .int .i64 0, .int .i64 0, .int .i64 0]], nd 1 1 1 0 [] false 0 0 0 false false 0 0 false false 0 0 .nilsl, [.box [.str [49, 32, 50], .int .i64 1, .int .i64 1, .int .i64 2, .int .i64 0, .int .i64 0]]⟩
theorem kq191 (n : Int) : KG n ke191 := kg n [ke190, ke5] ⟨kq190 n, kq5 n, trivial⟩ (by kernel_rfl) (by kernel_rfl)
def ke192 : KE := ⟨35, [.ptr 34 6 0 0, .int .i64 3], [.box [.str [49, 32, 50], .int .i64 1, .int .i64 1, .int .i64 0, .int .i64 0, .int .i64 0]], nd 1 1 1 0 [] false 0 0 0 false false 0 0 false false 0 0 .nilsl, [.box [.str [49, 32, 50], .int .i64 1, .int .i64 1, .int .i64 2, .int .i64 0, .int .i64 0]]⟩
theorem kq192 (n : Int) : KG n ke192 := kg n [ke191] ⟨kq191 n, trivial⟩ (by kernel_rfl) (by kernel_rfl)
def ke193 : KE := ⟨74, [.ptr 25 6 0 0], [.box [.str [49, 32, 50], .int .i64 1, .int .i64 1, .int .i64 2, .int .i64 0, .int .i64 0]], nd 1 1 2 0 [] false 0 0 0 false false 0 0 false false 0 0 .nilsl, [.box [.str [49, 32, 50], .int .i64 1, .int .i64 1, .int .i64 3, .int .i64 0, .int .i64 0]]⟩
theorem kq193 (n : Int) : KG n ke193 := kg n [ke76] ⟨kq76 n, trivial⟩ (by kernel_rfl) (by kernel_rfl)
def ke194 : KE := ⟨15, [.str [49, 32, 50], .agg [.int .i64 1, .int .i64 1]], [], .tup [nz 0 0 .nilsl, .int .i64 2, .int .i64 2], []⟩
theorem kq194 (n : Int) : KG n ke194 := kg n [ke0, ke192, ke193] ⟨kq0 n, kq192 n, kq193 n, trivial⟩ (by kernel_rfl) (by kernel_rfl)
def ke195 : KE := ⟨108, [.ptr 95 6 0 0], [.box [.str [49, 43, 65, 65, 65, 49], .int .i64 1, .int .i64 1, .int .i64 0, .int .i64 0, .int .i64 0]], nd 1 1 1 0 [] false 0 0 0 false false 0 0 false false 0 0 .nilsl, [.box [.str [49, 43, 65, 65, 65, 49], .int .i64 1, .int .i64 1, .int .i64 1, .int .i64 0, .int .i64 0]]⟩
theorem kq195 (n : Int) : KG n ke195 := kg n [ke1, ke2, ke5] ⟨kq1 n, kq2 n, kq5 n, trivial⟩ (by kernel_rfl) (by kernel_rfl)
def ke196 : KE := ⟨35, [.ptr 34 6 0 0, .int .i64 5], [.box [.str [49, 43, 65, 65, 65, 49], .int .i64 1, .int .i64 1, .int .i64 0, .int .i64 0, .int .i64 0]], nd 1 1 1 0 [] false 0 0 0 false false 0 0 false false 0 0 .nilsl, [.box [.str [49, 43, 65, 65, 65, 49], .int .i64 1, .int .i64 1, .int .i64 1, .int .i64 0, .int .i64 0]]⟩
theorem kq196 (n : Int) : KG n ke196 := kg n [ke195] ⟨kq195 n, trivial⟩ (by kernel_rfl) (by kernel_rfl)
def ke197 : KE := ⟨111, [.ptr 41 6 0 0, .str sL], [.box [.str [49, 43, 65, 65, 65, 49], .int .i64 1, .int .i64 1, .int .i64 2, .int .i64 0, .int .i64 0]], .str [65, 65, 65, 49], [.box [.str [49, 43, 65, 65, 65, 49], .int .i64 1, .int .i64 1, .int .i64 6, .int .i64 0, .int .i64 0]]⟩
theorem kq197 (n : Int) : KG n ke197 := kg n [ke9, ke10] ⟨kq9 n, kq10 n, trivial⟩ (by kernel_rfl) (by kernel_rfl)
def ke198 : KE := ⟨224, [.str [65, 65, 65, 49], .str [65, 66, 67, 68, 69, 70, 71, 72, 73, 74, 75, 76, 77, 78, 79, 80, 81, 82, 83, 84, 85, 86, 87, 88, 89, 90]], [], .str [49], []⟩
theorem kq198 (n : Int) : KG n ke198 := kg n [ke13, ke14] ⟨kq13 n, kq14 n, trivial⟩ (by kernel_rfl) (by kernel_rfl)
def ke199 : KE := ⟨226, [.str [65, 65, 65, 49]], [], .tup [.agg [.int .i64 0, .int .i64 0], .int .i64 12], []⟩
theorem kq199 (n : Int) : KG n ke199 := kg n [] trivial (by kernel_rfl) (by kernel_rfl)
def ke200 : KE := ⟨214, [.ptr 67 6 0 0, .int .i64 2, .str [65, 65, 65, 49]], [.box [.str [49, 43, 65, 65, 65, 49], .int .i64 1, .int .i64 1, .int .i64 6, .int .i64 0, .int .i64 0]], .agg [.int .i64 0, .int .i64 0, .bool false, .bool false], [.box [.str [49, 43, 65, 65, 65, 49], .int .i64 1, .int .i64 1, .int .i64 6, .int .i64 12, .int .i64 2]]⟩
theorem kq200 (n : Int) : KG n ke200 := kg n [ke198, ke16, ke18, ke199] ⟨kq198 n, kq16 n, kq18 n, kq199 n, trivial⟩ (by kernel_rfl) (by kernel_rfl)
def ke201 : KE := ⟨147, [.ptr 126 6 0 0], [.box [.str [49, 43, 65, 65, 65, 49], .int .i64 1, .int .i64 1, .int .i64 2, .int .i64 0, .int .i64 0]], nz 2 0 .nilsl, [.box [.str [49, 43, 65, 65, 65, 49], .int .i64 1, .int .i64 1, .int .i64 6, .int .i64 12, .int .i64 2]]⟩
theorem kq201 (n : Int) : KG n ke201 := kg n [ke197, ke200] ⟨kq197 n, kq200 n, trivial⟩ (by kernel_rfl) (by kernel_rfl)
def ke202 : KE := ⟨72, [.ptr 38 6 0 0], [.box [.str [49, 43, 65, 65, 65, 49], .int .i64 1, .int .i64 1, .int .i64 2, .int .i64 0, .int .i64 0]], nz 2 0 .nilsl, [.box [.str [49, 43, 65, 65, 65, 49], .int .i64 1, .int .i64 1, .int .i64 6, .int .i64 12, .int .i64 2]]⟩
theorem kq202 (n : Int) : KG n ke202 := kg n [ke201] ⟨kq201 n, trivial⟩ (by kernel_rfl) (by kernel_rfl)
def ke203 : KE := ⟨35, [.ptr 34 6 0 0, .int .i64 3], [.box [.str [49, 43, 65, 65, 65, 49], .int .i64 1, .int .i64 1, .int .i64 0, .int .i64 0, .int .i64 0]], nz 8 1 (.psl 18 [nd 1 1 1 0 [] false 0 0 0 false false 0 0 false false 0 0 .nilsl, nz 2 0 .nilsl]), [.box [.str [49, 43, 65, 65, 65, 49], .int .i64 1, .int .i64 1, .int .i64 6, .int .i64 12, .int .i64 2]]⟩
theorem kq203 (n : Int) : KG n ke203 := kg n [ke196, ke202] ⟨kq196 n, kq202 n, trivial⟩ (by kernel_rfl) (by kernel_rfl)
def ke204 : KE := ⟨15, [.str [49, 43, 65, 65, 65, 49], .agg [.int .i64 1, .int .i64 1]], [], .tup [nz 0 0 .nilsl, .int .i64 2, .int .i64 12], []⟩
theorem kq204 (n : Int) : KG n ke204 := kg n [ke0, ke203] ⟨kq0 n, kq203 n, trivial⟩ (by kernel_rfl) (by kernel_rfl)
def ke205 : KE := ⟨154, [.str [97], .int .u8 34], [], .int .i64 (-1), []⟩
theorem kq205 (n : Int) : KG n ke205 := k154 n (by kernel_rfl)
def ke206 : KE := ⟨108, [.ptr 95 6 0 0], [.box [.str [34, 97], .int .i64 1, .int .i64 1, .int .i64 0, .int .i64 0, .int .i64 0]], nz 0 0 .nilsl, [.box [.str [34, 97], .int .i64 1, .int .i64 1, .int .i64 1, .int .i64 2, .int .i64 0]]⟩
theorem kq206 (n : Int) : KG n ke206 := kg n [ke205] ⟨kq205 n, trivial⟩ (by kernel_rfl) (by kernel_rfl)
def ke207 : KE := ⟨35, [.ptr 34 6 0 0, .int .i64 5], [.box [.str [34, 97], .int .i64 1, .int .i64 1, .int .i64 0, .int .i64 0, .int .i64 0]], nz 0 0 .nilsl, [.box [.str [34, 97], .int .i64 1, .int .i64 1, .int .i64 1, .int .i64 2, .int .i64 0]]⟩
theorem kq207 (n : Int) : KG n ke207 := kg n [ke206] ⟨kq206 n, trivial⟩ (by kernel_rfl) (by kernel_rfl)
def ke208 : KE := ⟨15, [.str [34, 97], .agg [.int .i64 1, .int .i64 1]], [], .tup [nz 0 0 .nilsl, .int .i64 0, .int .i64 2], []⟩
theorem kq208 (n : Int) : KG n ke208 := kg n [ke0, ke207] ⟨kq0 n, kq207 n, trivial⟩ (by kernel_rfl) (by kernel_rfl)
def ke209 : KE := ⟨8, [], [], .bool true, []⟩
theorem kq209 (n : Int) : KG n ke209 := kg n [ke55, ke54, ke0, ke71, ke86, ke96, ke99, ke103, ke110, ke170, ke169, ke175, ke180, ke189, ke194, ke204, ke208] ⟨kq55 n, kq54 n, kq0 n, kq71 n, kq86 n, kq96 n, kq99 n, kq103 n, kq110 n, kq170 n, kq169 n, kq175 n, kq180 n, kq189 n, kq194 n, kq204 n, kq208 n, trivial⟩ (by kernel_rfl) (by kernel_rfl)
end Go.Det.Sea
end
