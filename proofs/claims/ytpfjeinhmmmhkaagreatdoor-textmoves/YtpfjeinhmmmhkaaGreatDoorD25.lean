/- TextMovesCardSaid: part 25 of the texts behind it: Kn7. No premise of its own. -/
import Derived.Test.YtpfjeinhmmmhkaaGreatDoorD24
set_option linter.all false
section
namespace Go.Det.Sea
open Go Go.Det
def ke166 : KE := ⟨53, [nd 1 2 0 0 [97, 34, 98] false 0 0 0 false false 0 0 false false 0 0 (.psl 18 [])], [], .int .i64 0, []⟩
theorem kq166 (n : Int) : KG n ke166 := kg n [ke48, ke142, ke45, ke46] ⟨kq48 n, kq142 n, kq45 n, kq46 n, trivial⟩ (by kernel_rfl) (by kernel_rfl)
def ke167 : KE := ⟨53, [nd 1 4 0 0 [] false 42 0 0 false false 0 0 false false 0 0 (.psl 18 [])], [], .int .i64 0, []⟩
theorem kq167 (n : Int) : KG n ke167 := kg n [ke48, ke45, ke46] ⟨kq48 n, kq45 n, kq46 n, trivial⟩ (by kernel_rfl) (by kernel_rfl)
def ke168 : KE := ⟨53, [nd 1 3 0 0 [] true 0 0 0 false false 0 0 false false 0 0 (.psl 18 [])], [], .int .i64 0, []⟩
theorem kq168 (n : Int) : KG n ke168 := kg n [ke48, ke45, ke46] ⟨kq48 n, kq45 n, kq46 n, trivial⟩ (by kernel_rfl) (by kernel_rfl)
def ke169 : KE := ⟨29, [nz 9 0 (.psl 18 [nd 5 0 0 0 [] false 0 65535 255 true true 0 0 true true 1 0 .nilsl, nz 6 3 .nilsl, nd 1 2 0 0 [97, 34, 98] false 0 0 0 false false 0 0 false false 0 0 .nilsl, nd 1 4 0 0 [] false 42 0 0 false false 0 0 false false 0 0 .nilsl, nd 1 3 0 0 [] true 0 0 0 false false 0 0 false false 0 0 .nilsl])], [], .int .i64 0, []⟩
theorem kq169 (n : Int) : KG n ke169 := kg n [ke161, ke162, ke163, ke164, ke165, ke166, ke167, ke168] ⟨kq161 n, kq162 n, kq163 n, kq164 n, kq165 n, kq166 n, kq167 n, kq168 n, trivial⟩ (by kernel_rfl) (by kernel_rfl)
def ke170 : KE := ⟨15, [.str sK, .agg [.int .i64 1, .int .i64 1]], [], .tup [nz 9 0 (.psl 18 [nd 5 0 0 0 [] false 0 65535 255 true true 0 0 true true 1 0 .nilsl, nz 6 3 .nilsl, nd 1 2 0 0 [97, 34, 98] false 0 0 0 false false 0 0 false false 0 0 .nilsl, nd 1 4 0 0 [] false 42 0 0 false false 0 0 false false 0 0 .nilsl, nd 1 3 0 0 [] true 0 0 0 false false 0 0 false false 0 0 .nilsl]), .int .i64 0, .int .i64 0], []⟩
theorem kq170 (n : Int) : KG n ke170 := kg n [ke0, ke160, ke169] ⟨kq0 n, kq160 n, kq169 n, trivial⟩ (by kernel_rfl) (by kernel_rfl)
def ke171 : KE := ⟨96, [.agg [.int .i64 0, .int .i64 0, .bool true, .bool true], .agg [.int .i64 1, .int .i64 1]], [], .agg [.int .i64 1, .int .i64 1], []⟩
theorem kq171 (n : Int) : KG n ke171 := kg n [ke21, ke22, ke23, ke24] ⟨kq21 n, kq22 n, kq23 n, kq24 n, trivial⟩ (by kernel_rfl) (by kernel_rfl)
def ke172 : KE := ⟨30, [nd 5 0 0 0 [] false 0 65535 255 true true 0 0 true true 1 0 .nilsl, .agg [.int .i64 1, .int .i64 1]], [], .str [83, 50, 33, 65, 49, 58, 66, 50], []⟩
theorem kq172 (n : Int) : KG n ke172 := kg n [ke64, ke62, ke171, ke65, ke68] ⟨kq64 n, kq62 n, kq171 n, kq65 n, kq68 n, trivial⟩ (by kernel_rfl) (by kernel_rfl)
def ke173 : KE := ⟨93, [.str [97, 34, 98], .str [34], .str [34, 34]], [], .str [97, 34, 34, 98], []⟩
theorem kq173 (n : Int) : KG n ke173 := k93 n (by kernel_rfl)
def ke174 : KE := ⟨61, [.psl 1 [.str [83, 50, 33, 65, 49, 58, 66, 50], .str [78, 51, 39], .str [34, 97, 34, 34, 98, 34], .str [35, 78, 47, 65], .str [84, 82, 85, 69]], .str [44]], [], .str [83, 50, 33, 65, 49, 58, 66, 50, 44, 78, 51, 39, 44, 34, 97, 34, 34, 98, 34, 44, 35, 78, 47, 65, 44, 84, 82, 85, 69], []⟩
theorem kq174 (n : Int) : KG n ke174 := k61 n (by kernel_rfl)
def ke175 : KE := ⟨30, [nz 9 0 (.psl 18 [nd 5 0 0 0 [] false 0 65535 255 true true 0 0 true true 1 0 .nilsl, nz 6 3 .nilsl, nd 1 2 0 0 [97, 34, 98] false 0 0 0 false false 0 0 false false 0 0 .nilsl, nd 1 4 0 0 [] false 42 0 0 false false 0 0 false false 0 0 .nilsl, nd 1 3 0 0 [] true 0 0 0 false false 0 0 false false 0 0 .nilsl]), .agg [.int .i64 1, .int .i64 1]], [], .str [83, 85, 77, 40, 83, 50, 33, 65, 49, 58, 66, 50, 44, 78, 51, 39, 44, 34, 97, 34, 34, 98, 34, 44, 35, 78, 47, 65, 44, 84, 82, 85, 69, 41], []⟩
theorem kq175 (n : Int) : KG n ke175 := kg n [ke116, ke172, ke173, ke146, ke174] ⟨kq116 n, kq172 n, kq173 n, kq146 n, kq174 n, trivial⟩ (by kernel_rfl) (by kernel_rfl)
def ke176 : KE := ⟨108, [.ptr 95 6 0 0], [.box [.str [49, 43], .int .i64 1, .int .i64 1, .int .i64 0, .int .i64 0, .int .i64 0]], nd 1 1 1 0 [] false 0 0 0 false false 0 0 false false 0 0 .nilsl, [.box [.str [49, 43], .int .i64 1, .int .i64 1, .int .i64 1, .int .i64 0, .int .i64 0]]⟩
theorem kq176 (n : Int) : KG n ke176 := kg n [ke1, ke2, ke5] ⟨kq1 n, kq2 n, kq5 n, trivial⟩ (by kernel_rfl) (by kernel_rfl)
def ke177 : KE := ⟨35, [.ptr 34 6 0 0, .int .i64 5], [.box [.str [49, 43], .int .i64 1, .int .i64 1, .int .i64 0, .int .i64 0, .int .i64 0]], nd 1 1 1 0 [] false 0 0 0 false false 0 0 false false 0 0 .nilsl, [.box [.str [49, 43], .int .i64 1, .int .i64 1, .int .i64 1, .int .i64 0, .int .i64 0]]⟩
theorem kq177 (n : Int) : KG n ke177 := kg n [ke176] ⟨kq176 n, trivial⟩ (by kernel_rfl) (by kernel_rfl)
def ke178 : KE := ⟨72, [.ptr 38 6 0 0], [.box [.str [49, 43], .int .i64 1, .int .i64 1, .int .i64 2, .int .i64 0, .int .i64 0]], nz 0 0 .nilsl, [.box [.str [49, 43], .int .i64 1, .int .i64 1, .int .i64 2, .int .i64 2, .int .i64 2]]⟩
theorem kq178 (n : Int) : KG n ke178 := kg n [] trivial (by kernel_rfl) (by kernel_rfl)
def ke179 : KE := ⟨35, [.ptr 34 6 0 0, .int .i64 3], [.box [.str [49, 43], .int .i64 1, .int .i64 1, .int .i64 0, .int .i64 0, .int .i64 0]], nz 8 1 (.psl 18 [nd 1 1 1 0 [] false 0 0 0 false false 0 0 false false 0 0 .nilsl, nz 0 0 .nilsl]), [.box [.str [49, 43], .int .i64 1, .int .i64 1, .int .i64 2, .int .i64 2, .int .i64 2]]⟩
theorem kq179 (n : Int) : KG n ke179 := kg n [ke177, ke178] ⟨kq177 n, kq178 n, trivial⟩ (by kernel_rfl) (by kernel_rfl)
def ke180 : KE := ⟨15, [.str [49, 43], .agg [.int .i64 1, .int .i64 1]], [], .tup [nz 0 0 .nilsl, .int .i64 2, .int .i64 2], []⟩
theorem kq180 (n : Int) : KG n ke180 := kg n [ke0, ke179] ⟨kq0 n, kq179 n, trivial⟩ (by kernel_rfl) (by kernel_rfl)
def ke181 : KE := ⟨108, [.ptr 95 6 0 0], [.box [.str [49, 43, 70, 79, 79, 40, 50, 41], .int .i64 1, .int .i64 1, .int .i64 0, .int .i64 0, .int .i64 0]], nd 1 1 1 0 [] false 0 0 0 false false 0 0 false false 0 0 .nilsl, [.box [.str [49, 43, 70, 79, 79, 40, 50, 41], .int .i64 1, .int .i64 1, .int .i64 1, .int .i64 0, .int .i64 0]]⟩
theorem kq181 (n : Int) : KG n ke181 := kg n [ke1, ke2, ke5] ⟨kq1 n, kq2 n, kq5 n, trivial⟩ (by kernel_rfl) (by kernel_rfl)
def ke182 : KE := ⟨35, [.ptr 34 6 0 0, .int .i64 5], [.box [.str [49, 43, 70, 79, 79, 40, 50, 41], .int .i64 1, .int .i64 1, .int .i64 0, .int .i64 0, .int .i64 0]], nd 1 1 1 0 [] false 0 0 0 false false 0 0 false false 0 0 .nilsl, [.box [.str [49, 43, 70, 79, 79, 40, 50, 41], .int .i64 1, .int .i64 1, .int .i64 1, .int .i64 0, .int .i64 0]]⟩
theorem kq182 (n : Int) : KG n ke182 := kg n [ke181] ⟨kq181 n, trivial⟩ (by kernel_rfl) (by kernel_rfl)
def ke183 : KE := ⟨153, [.str [79], .str sL], [], .bool true, []⟩
theorem kq183 (n : Int) : KG n ke183 := kg n [] trivial (by kernel_rfl) (by kernel_rfl)
def ke184 : KE := ⟨111, [.ptr 41 6 0 0, .str sL], [.box [.str [49, 43, 70, 79, 79, 40, 50, 41], .int .i64 1, .int .i64 1, .int .i64 2, .int .i64 0, .int .i64 0]], .str [70, 79, 79], [.box [.str [49, 43, 70, 79, 79, 40, 50, 41], .int .i64 1, .int .i64 1, .int .i64 5, .int .i64 0, .int .i64 0]]⟩
theorem kq184 (n : Int) : KG n ke184 := kg n [ke183, ke114] ⟨kq183 n, kq114 n, trivial⟩ (by kernel_rfl) (by kernel_rfl)
def ke185 : KE := ⟨209, [.psl 3 [.agg [.str [83, 85, 77], .int .i64 0, .int .i64 9223372036854775807], .agg [.str [77, 73, 78], .int .i64 0, .int .i64 9223372036854775807], .agg [.str [77, 65, 88], .int .i64 0, .int .i64 9223372036854775807], .agg [.str [67, 79, 85, 78, 84], .int .i64 0, .int .i64 9223372036854775807], .agg [.str [65, 86, 69, 82, 65, 71, 69], .int .i64 0, .int .i64 9223372036854775807], .agg [.str [65, 66, 83], .int .i64 1, .int .i64 1], .agg [.str [83, 73, 71, 78], .int .i64 1, .int .i64 1], .agg [.str [73, 78, 84], .int .i64 1, .int .i64 1], .agg [.str [77, 79, 68], .int .i64 2, .int .i64 2], .agg [.str [82, 79, 85, 78, 68], .int .i64 2, .int .i64 2], .agg [.str [73, 70], .int .i64 2, .int .i64 3], .agg [.str [65, 78, 68], .int .i64 0, .int .i64 9223372036854775807], .agg [.str [79, 82], .int .i64 0, .int .i64 9223372036854775807], .agg [.str [78, 79, 84], .int .i64 1, .int .i64 1], .agg [.str [76, 69, 78], .int .i64 1, .int .i64 1], .agg [.str [76, 69, 70, 84], .int .i64 1, .int .i64 2], .agg [.str [82, 73, 71, 72, 84], .int .i64 1, .int .i64 2], .agg [.str [77, 73, 68], .int .i64 3, .int .i64 3], .agg [.str [67, 79, 78, 67, 65, 84], .int .i64 0, .int .i64 9223372036854775807], .agg [.str [85, 80, 80, 69, 82], .int .i64 1, .int .i64 1], .agg [.str [76, 79, 87, 69, 82], .int .i64 1, .int .i64 1], .agg [.str [73, 83, 66, 76, 65, 78, 75], .int .i64 1, .int .i64 1], .agg [.str [73, 83, 69, 82, 82, 79, 82], .int .i64 1, .int .i64 1], .agg [.str [73, 70, 69, 82, 82, 79, 82], .int .i64 2, .int .i64 2], .agg [.str [73, 78, 68, 69, 88], .int .i64 2, .int .i64 2], .agg [.str [67, 72, 79, 79, 83, 69], .int .i64 2, .int .i64 9223372036854775807], .agg [.str [69, 88, 65, 67, 84], .int .i64 2, .int .i64 2], .agg [.str [82, 69, 80, 84], .int .i64 2, .int .i64 2], .agg [.str [78, 65], .int .i64 0, .int .i64 0], .agg [.str [84, 89, 80, 69], .int .i64 1, .int .i64 1]], .fn (.func 210) [] [.ptr 19 1 0 0]], [.box [.str [70, 79, 79]]], .int .i64 (-1), [.box [.str [70, 79, 79]]]⟩
theorem kq185 (n : Int) : KG n ke185 := kg n [] trivial (by kernel_rfl) (by kernel_rfl)
def ke186 : KE := ⟨147, [.ptr 126 6 0 0], [.box [.str [49, 43, 70, 79, 79, 40, 50, 41], .int .i64 1, .int .i64 1, .int .i64 2, .int .i64 0, .int .i64 0]], nz 0 0 .nilsl, [.box [.str [49, 43, 70, 79, 79, 40, 50, 41], .int .i64 1, .int .i64 1, .int .i64 5, .int .i64 3, .int .i64 2]]⟩
theorem kq186 (n : Int) : KG n ke186 := kg n [ke184, ke116, ke185] ⟨kq184 n, kq116 n, kq185 n, trivial⟩ (by kernel_rfl) (by kernel_rfl)
end Go.Det.Sea
end
