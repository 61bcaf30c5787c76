/- TextMovesCardSaid: part 23 of the texts behind it: Kn5. No premise of its own. -/
import Derived.Test.YtpfjeinhmmmhkaaGreatDoorD22
set_option linter.all false
section
namespace Go.Det.Sea
open Go Go.Det
def ke121 : KE := ⟨153, [.str [32], .str sL], [], .bool false, []⟩
theorem kq121 (n : Int) : KG n ke121 := kg n [] trivial (by kernel_rfl) (by kernel_rfl)
def ke122 : KE := ⟨180, [.ptr 39 6 0 0], [.box [.str sK, .int .i64 1, .int .i64 1, .int .i64 7, .int .i64 0, .int .i64 0]], .str [65, 49], [.box [.str sK, .int .i64 1, .int .i64 1, .int .i64 9, .int .i64 0, .int .i64 0]]⟩
theorem kq122 (n : Int) : KG n ke122 := kg n [ke9, ke10, ke121] ⟨kq9 n, kq10 n, kq121 n, trivial⟩ (by kernel_rfl) (by kernel_rfl)
def ke123 : KE := ⟨214, [.ptr 67 6 0 0, .int .i64 7, .str [65, 49]], [.box [.str sK, .int .i64 1, .int .i64 1, .int .i64 9, .int .i64 0, .int .i64 0]], .agg [.int .i64 65535, .int .i64 255, .bool true, .bool true], [.box [.str sK, .int .i64 1, .int .i64 1, .int .i64 9, .int .i64 0, .int .i64 0]]⟩
theorem kq123 (n : Int) : KG n ke123 := kg n [ke15, ke16, ke18, ke20, ke25] ⟨kq15 n, kq16 n, kq18 n, kq20 n, kq25 n, trivial⟩ (by kernel_rfl) (by kernel_rfl)
def ke124 : KE := ⟨153, [.str [44], .str sL], [], .bool false, []⟩
theorem kq124 (n : Int) : KG n ke124 := kg n [] trivial (by kernel_rfl) (by kernel_rfl)
def ke125 : KE := ⟨111, [.ptr 41 6 0 0, .str sL], [.box [.str sK, .int .i64 1, .int .i64 1, .int .i64 12, .int .i64 0, .int .i64 0]], .str [66, 50], [.box [.str sK, .int .i64 1, .int .i64 1, .int .i64 14, .int .i64 0, .int .i64 0]]⟩
theorem kq125 (n : Int) : KG n ke125 := kg n [ke31, ke124] ⟨kq31 n, kq124 n, trivial⟩ (by kernel_rfl) (by kernel_rfl)
def ke126 : KE := ⟨214, [.ptr 67 6 0 0, .int .i64 12, .str [66, 50]], [.box [.str sK, .int .i64 1, .int .i64 1, .int .i64 14, .int .i64 0, .int .i64 0]], .agg [.int .i64 0, .int .i64 0, .bool true, .bool true], [.box [.str sK, .int .i64 1, .int .i64 1, .int .i64 14, .int .i64 0, .int .i64 0]]⟩
theorem kq126 (n : Int) : KG n ke126 := kg n [ke13, ke34, ke35, ke23, ke24, ke21, ke22] ⟨kq13 n, kq34 n, kq35 n, kq23 n, kq24 n, kq21 n, kq22 n, trivial⟩ (by kernel_rfl) (by kernel_rfl)
def ke127 : KE := ⟨186, [.ptr 56 6 0 0, .int .i64 7, .str [65, 49], .int .i64 4, .int .i64 5, .int .i64 1], [.box [.str sK, .int .i64 1, .int .i64 1, .int .i64 9, .int .i64 0, .int .i64 0]], nd 5 0 0 0 [] false 0 65535 255 true true 0 0 true true 1 0 .nilsl, [.box [.str sK, .int .i64 1, .int .i64 1, .int .i64 14, .int .i64 0, .int .i64 0]]⟩
theorem kq127 (n : Int) : KG n ke127 := kg n [ke123, ke125, ke126] ⟨kq123 n, kq125 n, kq126 n, trivial⟩ (by kernel_rfl) (by kernel_rfl)
def ke128 : KE := ⟨147, [.ptr 126 6 0 0], [.box [.str sK, .int .i64 1, .int .i64 1, .int .i64 4, .int .i64 0, .int .i64 0]], nd 5 0 0 0 [] false 0 65535 255 true true 0 0 true true 1 0 .nilsl, [.box [.str sK, .int .i64 1, .int .i64 1, .int .i64 14, .int .i64 0, .int .i64 0]]⟩
theorem kq128 (n : Int) : KG n ke128 := kg n [ke118, ke120, ke122, ke127] ⟨kq118 n, kq120 n, kq122 n, kq127 n, trivial⟩ (by kernel_rfl) (by kernel_rfl)
def ke129 : KE := ⟨72, [.ptr 38 6 0 0], [.box [.str sK, .int .i64 1, .int .i64 1, .int .i64 4, .int .i64 0, .int .i64 0]], nd 5 0 0 0 [] false 0 65535 255 true true 0 0 true true 1 0 .nilsl, [.box [.str sK, .int .i64 1, .int .i64 1, .int .i64 14, .int .i64 0, .int .i64 0]]⟩
theorem kq129 (n : Int) : KG n ke129 := kg n [ke128] ⟨kq128 n, trivial⟩ (by kernel_rfl) (by kernel_rfl)
def ke130 : KE := ⟨35, [.ptr 34 6 0 0, .int .i64 3], [.box [.str sK, .int .i64 1, .int .i64 1, .int .i64 4, .int .i64 0, .int .i64 0]], nd 5 0 0 0 [] false 0 65535 255 true true 0 0 true true 1 0 .nilsl, [.box [.str sK, .int .i64 1, .int .i64 1, .int .i64 14, .int .i64 0, .int .i64 0]]⟩
theorem kq130 (n : Int) : KG n ke130 := kg n [ke129] ⟨kq129 n, trivial⟩ (by kernel_rfl) (by kernel_rfl)
def ke131 : KE := ⟨153, [.str [78], .str sL], [], .bool true, []⟩
theorem kq131 (n : Int) : KG n ke131 := kg n [] trivial (by kernel_rfl) (by kernel_rfl)
def ke132 : KE := ⟨153, [.str [51], .str sL], [], .bool true, []⟩
theorem kq132 (n : Int) : KG n ke132 := kg n [] trivial (by kernel_rfl) (by kernel_rfl)
def ke133 : KE := ⟨153, [.str [39], .str sL], [], .bool true, []⟩
theorem kq133 (n : Int) : KG n ke133 := kg n [] trivial (by kernel_rfl) (by kernel_rfl)
def ke134 : KE := ⟨180, [.ptr 39 6 0 0], [.box [.str sK, .int .i64 1, .int .i64 1, .int .i64 16, .int .i64 0, .int .i64 0]], .str [78, 51, 39], [.box [.str sK, .int .i64 1, .int .i64 1, .int .i64 19, .int .i64 0, .int .i64 0]]⟩
theorem kq134 (n : Int) : KG n ke134 := kg n [ke131, ke132, ke133, ke124] ⟨kq131 n, kq132 n, kq133 n, kq124 n, trivial⟩ (by kernel_rfl) (by kernel_rfl)
def ke135 : KE := ⟨230, [.str [51], .int .i64 10, .int .i64 64], [], .tup [.int .u64 3, .niliface], []⟩
theorem kq135 (n : Int) : KG n ke135 := kg n [] trivial (by kernel_rfl) (by kernel_rfl)
def ke136 : KE := ⟨184, [.str [51]], [], .tup [.int .i64 3, .bool true], []⟩
theorem kq136 (n : Int) : KG n ke136 := kg n [ke135] ⟨kq135 n, trivial⟩ (by kernel_rfl) (by kernel_rfl)
def ke137 : KE := ⟨147, [.ptr 126 6 0 0], [.box [.str sK, .int .i64 1, .int .i64 1, .int .i64 16, .int .i64 0, .int .i64 0]], nz 6 3 .nilsl, [.box [.str sK, .int .i64 1, .int .i64 1, .int .i64 19, .int .i64 0, .int .i64 0]]⟩
theorem kq137 (n : Int) : KG n ke137 := kg n [ke134, ke136] ⟨kq134 n, kq136 n, trivial⟩ (by kernel_rfl) (by kernel_rfl)
def ke138 : KE := ⟨72, [.ptr 38 6 0 0], [.box [.str sK, .int .i64 1, .int .i64 1, .int .i64 15, .int .i64 0, .int .i64 0]], nz 6 3 .nilsl, [.box [.str sK, .int .i64 1, .int .i64 1, .int .i64 19, .int .i64 0, .int .i64 0]]⟩
theorem kq138 (n : Int) : KG n ke138 := kg n [ke137] ⟨kq137 n, trivial⟩ (by kernel_rfl) (by kernel_rfl)
def ke139 : KE := ⟨35, [.ptr 34 6 0 0, .int .i64 3], [.box [.str sK, .int .i64 1, .int .i64 1, .int .i64 15, .int .i64 0, .int .i64 0]], nz 6 3 .nilsl, [.box [.str sK, .int .i64 1, .int .i64 1, .int .i64 19, .int .i64 0, .int .i64 0]]⟩
theorem kq139 (n : Int) : KG n ke139 := kg n [ke138] ⟨kq138 n, trivial⟩ (by kernel_rfl) (by kernel_rfl)
def ke140 : KE := ⟨154, [.str [97, 34, 34, 98, 34, 44, 32, 35, 78, 47, 65, 44, 32, 84, 82, 85, 69, 41], .int .u8 34], [], .int .i64 1, []⟩
theorem kq140 (n : Int) : KG n ke140 := k154 n (by kernel_rfl)
def ke141 : KE := ⟨154, [.str [98, 34, 44, 32, 35, 78, 47, 65, 44, 32, 84, 82, 85, 69, 41], .int .u8 34], [], .int .i64 1, []⟩
theorem kq141 (n : Int) : KG n ke141 := k154 n (by kernel_rfl)
def ke142 : KE := ⟨113, [.str [97, 34, 98]], [], .tup [.int .i64 3, .int .i64 0], []⟩
theorem kq142 (n : Int) : KG n ke142 := kg n [] trivial (by kernel_rfl) (by kernel_rfl)
def ke143 : KE := ⟨75, [.ptr 87 6 0 0], [.box [.str sK, .int .i64 1, .int .i64 1, .int .i64 21, .int .i64 0, .int .i64 0]], nd 1 2 0 0 [97, 34, 98] false 0 0 0 false false 0 0 false false 0 0 .nilsl, [.box [.str sK, .int .i64 1, .int .i64 1, .int .i64 27, .int .i64 0, .int .i64 0]]⟩
theorem kq143 (n : Int) : KG n ke143 := kg n [ke140, ke141, ke142] ⟨kq140 n, kq141 n, kq142 n, trivial⟩ (by kernel_rfl) (by kernel_rfl)
def ke144 : KE := ⟨72, [.ptr 38 6 0 0], [.box [.str sK, .int .i64 1, .int .i64 1, .int .i64 20, .int .i64 0, .int .i64 0]], nd 1 2 0 0 [97, 34, 98] false 0 0 0 false false 0 0 false false 0 0 .nilsl, [.box [.str sK, .int .i64 1, .int .i64 1, .int .i64 27, .int .i64 0, .int .i64 0]]⟩
theorem kq144 (n : Int) : KG n ke144 := kg n [ke143] ⟨kq143 n, trivial⟩ (by kernel_rfl) (by kernel_rfl)
end Go.Det.Sea
end
