/- TextMovesCardSaid: part 20 of the texts behind it: Kn2. No premise of its own. -/
import Derived.Test.YtpfjeinhmmmhkaaGreatDoorD19
set_option linter.all false
section
namespace Go.Det.Sea
open Go Go.Det
def ke37 : KE := ⟨147, [.ptr 126 6 0 0], [.box [.str [49, 43, 65, 49, 42, 36, 66, 36, 50], .int .i64 1, .int .i64 1, .int .i64 5, .int .i64 0, .int .i64 0]], nd 2 0 0 0 [] false 0 1 1 false false 0 0 false false 0 0 .nilsl, [.box [.str [49, 43, 65, 49, 42, 36, 66, 36, 50], .int .i64 1, .int .i64 1, .int .i64 9, .int .i64 0, .int .i64 0]]⟩
theorem kq37 (n : Int) : KG n ke37 := kg n [ke32, ke36] ⟨kq32 n, kq36 n, trivial⟩ (by kernel_rfl) (by kernel_rfl)
def ke38 : KE := ⟨72, [.ptr 38 6 0 0], [.box [.str [49, 43, 65, 49, 42, 36, 66, 36, 50], .int .i64 1, .int .i64 1, .int .i64 5, .int .i64 0, .int .i64 0]], nd 2 0 0 0 [] false 0 1 1 false false 0 0 false false 0 0 .nilsl, [.box [.str [49, 43, 65, 49, 42, 36, 66, 36, 50], .int .i64 1, .int .i64 1, .int .i64 9, .int .i64 0, .int .i64 0]]⟩
theorem kq38 (n : Int) : KG n ke38 := kg n [ke37] ⟨kq37 n, trivial⟩ (by kernel_rfl) (by kernel_rfl)
def ke39 : KE := ⟨35, [.ptr 34 6 0 0, .int .i64 4], [.box [.str [49, 43, 65, 49, 42, 36, 66, 36, 50], .int .i64 1, .int .i64 1, .int .i64 2, .int .i64 0, .int .i64 0]], nz 8 3 (.psl 18 [nd 2 0 0 0 [] false 0 65535 255 true true 0 0 false false 0 0 .nilsl, nd 2 0 0 0 [] false 0 1 1 false false 0 0 false false 0 0 .nilsl]), [.box [.str [49, 43, 65, 49, 42, 36, 66, 36, 50], .int .i64 1, .int .i64 1, .int .i64 9, .int .i64 0, .int .i64 0]]⟩
theorem kq39 (n : Int) : KG n ke39 := kg n [ke28, ke38] ⟨kq28 n, kq38 n, trivial⟩ (by kernel_rfl) (by kernel_rfl)
def ke40 : KE := ⟨35, [.ptr 34 6 0 0, .int .i64 3], [.box [.str [49, 43, 65, 49, 42, 36, 66, 36, 50], .int .i64 1, .int .i64 1, .int .i64 0, .int .i64 0, .int .i64 0]], nz 8 1 (.psl 18 [nd 1 1 1 0 [] false 0 0 0 false false 0 0 false false 0 0 .nilsl, nz 8 3 (.psl 18 [nd 2 0 0 0 [] false 0 65535 255 true true 0 0 false false 0 0 .nilsl, nd 2 0 0 0 [] false 0 1 1 false false 0 0 false false 0 0 .nilsl])]), [.box [.str [49, 43, 65, 49, 42, 36, 66, 36, 50], .int .i64 1, .int .i64 1, .int .i64 9, .int .i64 0, .int .i64 0]]⟩
theorem kq40 (n : Int) : KG n ke40 := kg n [ke8, ke39] ⟨kq8 n, kq39 n, trivial⟩ (by kernel_rfl) (by kernel_rfl)
def ke41 : KE := ⟨48, [nz 8 1 (.psl 18 [nd 1 1 1 0 [] false 0 0 0 false false 0 0 false false 0 0 .nilsl, nz 8 3 (.psl 18 [nd 2 0 0 0 [] false 0 65535 255 true true 0 0 false false 0 0 .nilsl, nd 2 0 0 0 [] false 0 1 1 false false 0 0 false false 0 0 .nilsl])])], [], .psl 19 [.agg [.int .i64 8, .int .i64 0, .int .i64 0, .int .i64 0, .str [], .bool false, .int .i64 0, .int .i64 0, .int .i64 0, .bool false, .bool false, .int .i64 0, .int .i64 0, .bool false, .bool false, .int .i64 0, .int .i64 1, .psl 18 [nd 1 1 1 0 [] false 0 0 0 false false 0 0 false false 0 0 (.psl 18 []), nz 8 3 (.psl 18 [nd 2 0 0 0 [] false 0 65535 255 true true 0 0 false false 0 0 (.psl 18 []), nd 2 0 0 0 [] false 0 1 1 false false 0 0 false false 0 0 (.psl 18 [])])], .int .i64 1], .agg [.int .i64 1, .int .i64 1, .int .i64 1, .int .i64 0, .str [], .bool false, .int .i64 0, .int .i64 0, .int .i64 0, .bool false, .bool false, .int .i64 0, .int .i64 0, .bool false, .bool false, .int .i64 0, .int .i64 0, .psl 18 [], .int .i64 2], .agg [.int .i64 8, .int .i64 0, .int .i64 0, .int .i64 0, .str [], .bool false, .int .i64 0, .int .i64 0, .int .i64 0, .bool false, .bool false, .int .i64 0, .int .i64 0, .bool false, .bool false, .int .i64 0, .int .i64 3, .psl 18 [nd 2 0 0 0 [] false 0 65535 255 true true 0 0 false false 0 0 (.psl 18 []), nd 2 0 0 0 [] false 0 1 1 false false 0 0 false false 0 0 (.psl 18 [])], .int .i64 2], .agg [.int .i64 2, .int .i64 0, .int .i64 0, .int .i64 0, .str [], .bool false, .int .i64 0, .int .i64 65535, .int .i64 255, .bool true, .bool true, .int .i64 0, .int .i64 0, .bool false, .bool false, .int .i64 0, .int .i64 0, .psl 18 [], .int .i64 3], .agg [.int .i64 2, .int .i64 0, .int .i64 0, .int .i64 0, .str [], .bool false, .int .i64 0, .int .i64 1, .int .i64 1, .bool false, .bool false, .int .i64 0, .int .i64 0, .bool false, .bool false, .int .i64 0, .int .i64 0, .psl 18 [], .int .i64 3]], []⟩
theorem kq41 (n : Int) : KG n ke41 := k48 n (by kernel_rfl)
def ke42 : KE := ⟨86, [.psl 19 [.agg [.int .i64 8, .int .i64 0, .int .i64 0, .int .i64 0, .str [], .bool false, .int .i64 0, .int .i64 0, .int .i64 0, .bool false, .bool false, .int .i64 0, .int .i64 0, .bool false, .bool false, .int .i64 0, .int .i64 1, .psl 18 [nd 1 1 1 0 [] false 0 0 0 false false 0 0 false false 0 0 (.psl 18 []), nz 8 3 (.psl 18 [nd 2 0 0 0 [] false 0 65535 255 true true 0 0 false false 0 0 (.psl 18 []), nd 2 0 0 0 [] false 0 1 1 false false 0 0 false false 0 0 (.psl 18 [])])], .int .i64 1], .agg [.int .i64 1, .int .i64 1, .int .i64 1, .int .i64 0, .str [], .bool false, .int .i64 0, .int .i64 0, .int .i64 0, .bool false, .bool false, .int .i64 0, .int .i64 0, .bool false, .bool false, .int .i64 0, .int .i64 0, .psl 18 [], .int .i64 2], .agg [.int .i64 8, .int .i64 0, .int .i64 0, .int .i64 0, .str [], .bool false, .int .i64 0, .int .i64 0, .int .i64 0, .bool false, .bool false, .int .i64 0, .int .i64 0, .bool false, .bool false, .int .i64 0, .int .i64 3, .psl 18 [nd 2 0 0 0 [] false 0 65535 255 true true 0 0 false false 0 0 (.psl 18 []), nd 2 0 0 0 [] false 0 1 1 false false 0 0 false false 0 0 (.psl 18 [])], .int .i64 2], .agg [.int .i64 2, .int .i64 0, .int .i64 0, .int .i64 0, .str [], .bool false, .int .i64 0, .int .i64 65535, .int .i64 255, .bool true, .bool true, .int .i64 0, .int .i64 0, .bool false, .bool false, .int .i64 0, .int .i64 0, .psl 18 [], .int .i64 3], .agg [.int .i64 2, .int .i64 0, .int .i64 0, .int .i64 0, .str [], .bool false, .int .i64 0, .int .i64 1, .int .i64 1, .bool false, .bool false, .int .i64 0, .int .i64 0, .bool false, .bool false, .int .i64 0, .int .i64 0, .psl 18 [], .int .i64 3]], .fn (.func 52) [] []], [], .int .i64 (-1), []⟩
theorem kq42 (n : Int) : KG n ke42 := kg n [] trivial (by kernel_rfl) (by kernel_rfl)
def ke43 : KE := ⟨87, [.int .i64 8, .int .i64 1, .int .i64 10], [], .bool true, []⟩
theorem kq43 (n : Int) : KG n ke43 := kg n [] trivial (by kernel_rfl) (by kernel_rfl)
def ke44 : KE := ⟨132, [.agg [.int .i64 0, .int .i64 0, .bool false, .bool false]], [], .int .i64 0, []⟩
theorem kq44 (n : Int) : KG n ke44 := kg n [ke19] ⟨kq19 n, trivial⟩ (by kernel_rfl) (by kernel_rfl)
def ke45 : KE := ⟨90, [.agg [.int .i64 0, .int .i64 0, .bool false, .bool false, .int .i64 0, .int .i64 0, .bool false, .bool false]], [], .int .i64 0, []⟩
theorem kq45 (n : Int) : KG n ke45 := kg n [ke44] ⟨kq44 n, trivial⟩ (by kernel_rfl) (by kernel_rfl)
def ke46 : KE := ⟨87, [.int .i64 0, .int .i64 0, .int .i64 7], [], .bool true, []⟩
theorem kq46 (n : Int) : KG n ke46 := kg n [] trivial (by kernel_rfl) (by kernel_rfl)
def ke47 : KE := ⟨53, [nz 8 1 (.psl 18 [nd 1 1 1 0 [] false 0 0 0 false false 0 0 false false 0 0 (.psl 18 []), nz 8 3 (.psl 18 [nd 2 0 0 0 [] false 0 65535 255 true true 0 0 false false 0 0 (.psl 18 []), nd 2 0 0 0 [] false 0 1 1 false false 0 0 false false 0 0 (.psl 18 [])])])], [], .int .i64 0, []⟩
theorem kq47 (n : Int) : KG n ke47 := kg n [ke43, ke45, ke46] ⟨kq43 n, kq45 n, kq46 n, trivial⟩ (by kernel_rfl) (by kernel_rfl)
def ke48 : KE := ⟨87, [.int .i64 1, .int .i64 1, .int .i64 10], [], .bool true, []⟩
theorem kq48 (n : Int) : KG n ke48 := kg n [] trivial (by kernel_rfl) (by kernel_rfl)
def ke49 : KE := ⟨53, [nd 1 1 1 0 [] false 0 0 0 false false 0 0 false false 0 0 (.psl 18 [])], [], .int .i64 0, []⟩
theorem kq49 (n : Int) : KG n ke49 := kg n [ke48, ke45, ke46] ⟨kq48 n, kq45 n, kq46 n, trivial⟩ (by kernel_rfl) (by kernel_rfl)
def ke50 : KE := ⟨53, [nz 8 3 (.psl 18 [nd 2 0 0 0 [] false 0 65535 255 true true 0 0 false false 0 0 (.psl 18 []), nd 2 0 0 0 [] false 0 1 1 false false 0 0 false false 0 0 (.psl 18 [])])], [], .int .i64 0, []⟩
theorem kq50 (n : Int) : KG n ke50 := kg n [ke43, ke45, ke46] ⟨kq43 n, kq45 n, kq46 n, trivial⟩ (by kernel_rfl) (by kernel_rfl)
def ke51 : KE := ⟨132, [.agg [.int .i64 65535, .int .i64 255, .bool true, .bool true]], [], .int .i64 0, []⟩
theorem kq51 (n : Int) : KG n ke51 := kg n [] trivial (by kernel_rfl) (by kernel_rfl)
def ke52 : KE := ⟨53, [nd 2 0 0 0 [] false 0 65535 255 true true 0 0 false false 0 0 (.psl 18 [])], [], .int .i64 0, []⟩
theorem kq52 (n : Int) : KG n ke52 := kg n [ke51, ke44, ke46] ⟨kq51 n, kq44 n, kq46 n, trivial⟩ (by kernel_rfl) (by kernel_rfl)
def ke53 : KE := ⟨53, [nd 2 0 0 0 [] false 0 1 1 false false 0 0 false false 0 0 (.psl 18 [])], [], .int .i64 0, []⟩
theorem kq53 (n : Int) : KG n ke53 := kg n [ke0, ke44, ke46] ⟨kq0 n, kq44 n, kq46 n, trivial⟩ (by kernel_rfl) (by kernel_rfl)
def ke54 : KE := ⟨29, [nz 8 1 (.psl 18 [nd 1 1 1 0 [] false 0 0 0 false false 0 0 false false 0 0 .nilsl, nz 8 3 (.psl 18 [nd 2 0 0 0 [] false 0 65535 255 true true 0 0 false false 0 0 .nilsl, nd 2 0 0 0 [] false 0 1 1 false false 0 0 false false 0 0 .nilsl])])], [], .int .i64 0, []⟩
theorem kq54 (n : Int) : KG n ke54 := kg n [ke41, ke42, ke47, ke49, ke50, ke52, ke53] ⟨kq41 n, kq42 n, kq47 n, kq49 n, kq50 n, kq52 n, kq53 n, trivial⟩ (by kernel_rfl) (by kernel_rfl)
def ke55 : KE := ⟨15, [.str [49, 43, 65, 49, 42, 36, 66, 36, 50], .agg [.int .i64 1, .int .i64 1]], [], .tup [nz 8 1 (.psl 18 [nd 1 1 1 0 [] false 0 0 0 false false 0 0 false false 0 0 .nilsl, nz 8 3 (.psl 18 [nd 2 0 0 0 [] false 0 65535 255 true true 0 0 false false 0 0 .nilsl, nd 2 0 0 0 [] false 0 1 1 false false 0 0 false false 0 0 .nilsl])]), .int .i64 0, .int .i64 0], []⟩
theorem kq55 (n : Int) : KG n ke55 := kg n [ke0, ke40, ke54] ⟨kq0 n, kq40 n, kq54 n, trivial⟩ (by kernel_rfl) (by kernel_rfl)
def ke56 : KE := ⟨94, [.agg [.int .i64 1, .int .i64 1, .int .i64 0, .str [], .bool false, .int .i64 0]], [], .str [49], []⟩
theorem kq56 (n : Int) : KG n ke56 := kg n [] trivial (by kernel_rfl) (by kernel_rfl)
def ke57 : KE := ⟨57, [nd 1 1 1 0 [] false 0 0 0 false false 0 0 false false 0 0 .nilsl, .agg [.int .i64 1, .int .i64 1], .int .i64 3], [], .str [49], []⟩
theorem kq57 (n : Int) : KG n ke57 := kg n [ke56] ⟨kq56 n, trivial⟩ (by kernel_rfl) (by kernel_rfl)
def ke58 : KE := ⟨96, [.agg [.int .i64 65535, .int .i64 255, .bool true, .bool true], .agg [.int .i64 1, .int .i64 1]], [], .agg [.int .i64 0, .int .i64 0], []⟩
theorem kq58 (n : Int) : KG n ke58 := kg n [ke23, ke24] ⟨kq23 n, kq24 n, trivial⟩ (by kernel_rfl) (by kernel_rfl)
def ke59 : KE := ⟨154, [.str [48, 49, 50, 51, 52, 53, 54, 55, 56, 57], .int .u8 65], [], .int .i64 (-1), []⟩
theorem kq59 (n : Int) : KG n ke59 := k154 n (by kernel_rfl)
def ke60 : KE := ⟨154, [.str [48, 49, 50, 51, 52, 53, 54, 55, 56, 57], .int .u8 49], [], .int .i64 1, []⟩
theorem kq60 (n : Int) : KG n ke60 := k154 n (by kernel_rfl)
def ke61 : KE := ⟨97, [.str [65, 49], .str [48, 49, 50, 51, 52, 53, 54, 55, 56, 57]], [], .int .i64 1, []⟩
theorem kq61 (n : Int) : KG n ke61 := kg n [ke59, ke60] ⟨kq59 n, kq60 n, trivial⟩ (by kernel_rfl) (by kernel_rfl)
def ke62 : KE := ⟨56, [.agg [.int .i64 65535, .int .i64 255, .bool true, .bool true], .agg [.int .i64 1, .int .i64 1]], [], .str [65, 49], []⟩
theorem kq62 (n : Int) : KG n ke62 := kg n [ke58, ke61] ⟨kq58 n, kq61 n, trivial⟩ (by kernel_rfl) (by kernel_rfl)
def ke63 : KE := ⟨57, [nd 2 0 0 0 [] false 0 65535 255 true true 0 0 false false 0 0 .nilsl, .agg [.int .i64 1, .int .i64 1], .int .i64 4], [], .str [65, 49], []⟩
theorem kq63 (n : Int) : KG n ke63 := kg n [ke62] ⟨kq62 n, trivial⟩ (by kernel_rfl) (by kernel_rfl)
def ke64 : KE := ⟨54, [.int .i64 2], [], .str [50], []⟩
theorem kq64 (n : Int) : KG n ke64 := kg n [] trivial (by kernel_rfl) (by kernel_rfl)
def ke65 : KE := ⟨95, [.agg [.int .i64 1, .int .i64 1]], [], .str [66, 50], []⟩
theorem kq65 (n : Int) : KG n ke65 := kg n [ke64] ⟨kq64 n, trivial⟩ (by kernel_rfl) (by kernel_rfl)
def ke66 : KE := ⟨154, [.str [48, 49, 50, 51, 52, 53, 54, 55, 56, 57], .int .u8 66], [], .int .i64 (-1), []⟩
theorem kq66 (n : Int) : KG n ke66 := k154 n (by kernel_rfl)
def ke67 : KE := ⟨154, [.str [48, 49, 50, 51, 52, 53, 54, 55, 56, 57], .int .u8 50], [], .int .i64 2, []⟩
theorem kq67 (n : Int) : KG n ke67 := k154 n (by kernel_rfl)
def ke68 : KE := ⟨97, [.str [66, 50], .str [48, 49, 50, 51, 52, 53, 54, 55, 56, 57]], [], .int .i64 1, []⟩
theorem kq68 (n : Int) : KG n ke68 := kg n [ke66, ke67] ⟨kq66 n, kq67 n, trivial⟩ (by kernel_rfl) (by kernel_rfl)
def ke69 : KE := ⟨30, [nd 2 0 0 0 [] false 0 1 1 false false 0 0 false false 0 0 .nilsl, .agg [.int .i64 1, .int .i64 1]], [], .str [36, 66, 36, 50], []⟩
theorem kq69 (n : Int) : KG n ke69 := kg n [ke23, ke24, ke65, ke68] ⟨kq23 n, kq24 n, kq65 n, kq68 n, trivial⟩ (by kernel_rfl) (by kernel_rfl)
def ke70 : KE := ⟨30, [nz 8 3 (.psl 18 [nd 2 0 0 0 [] false 0 65535 255 true true 0 0 false false 0 0 .nilsl, nd 2 0 0 0 [] false 0 1 1 false false 0 0 false false 0 0 .nilsl]), .agg [.int .i64 1, .int .i64 1]], [], .str [65, 49, 42, 36, 66, 36, 50], []⟩
theorem kq70 (n : Int) : KG n ke70 := kg n [ke29, ke63, ke69] ⟨kq29 n, kq63 n, kq69 n, trivial⟩ (by kernel_rfl) (by kernel_rfl)
def ke71 : KE := ⟨30, [nz 8 1 (.psl 18 [nd 1 1 1 0 [] false 0 0 0 false false 0 0 false false 0 0 .nilsl, nz 8 3 (.psl 18 [nd 2 0 0 0 [] false 0 65535 255 true true 0 0 false false 0 0 .nilsl, nd 2 0 0 0 [] false 0 1 1 false false 0 0 false false 0 0 .nilsl])]), .agg [.int .i64 1, .int .i64 1]], [], .str [49, 43, 65, 49, 42, 36, 66, 36, 50], []⟩
theorem kq71 (n : Int) : KG n ke71 := kg n [ke7, ke57, ke70, ke29] ⟨kq7 n, kq57 n, kq70 n, kq29 n, trivial⟩ (by kernel_rfl) (by kernel_rfl)
end Go.Det.Sea
end
