/- TextMovesCardSaid: part 6 of the texts behind it: Sea1. No premise of its own. -/
import Derived.Test.YtpfjeinhmmmhkaaGreatDoorD5
import Derived.Test.YtpfjeinhmmmhkaaGreatDoorProg
set_option linter.all false
section
namespace Go.Det.Sea
open Go.Det
def tys0 : List (Option Ti) := [
  some ⟨.other, 1, 0, []⟩,
  some ⟨.fn, 1, 8, [.nilfn]⟩,
  some ⟨.int .i64, 1, 8, [.int .i64 0]⟩,
  some ⟨.int .i64, 1, 8, [.int .i64 0]⟩,
  some ⟨.bool, 1, 1, [.bool false]⟩,
  some ⟨.int .u8, 1, 1, [.int .u8 0]⟩,
  some ⟨.int .u8, 1, 1, [.int .u8 0]⟩,
  some ⟨.st [(0, 2), (1, 3), (2, 4), (3, 6)], 4, 24, [.int .i64 0, .int .i64 0, .bool false, .int .u8 0]⟩,
  some ⟨.st [(0, 2), (1, 3), (2, 4), (3, 6)], 4, 24, [.int .i64 0, .int .i64 0, .bool false, .int .u8 0]⟩,
  some ⟨.str, 1, 16, [.str []]⟩,
  some ⟨.str, 1, 16, [.str []]⟩,
  some ⟨.str, 1, 16, [.str []]⟩,
  some ⟨.int .u64, 1, 8, [.int .u64 0]⟩,
  none,
  none,
  some ⟨.ptr 288, 1, 8, [.nilptr]⟩,
  some ⟨.ptr 291, 1, 8, [.nilptr]⟩,
  some ⟨.ptr 298, 1, 8, [.nilptr]⟩,
  none,
  none,
  some ⟨.ifc, 1, 16, [.niliface]⟩,
  some ⟨.int .i32, 1, 4, [.int .i32 0]⟩,
  some ⟨.st [(0, 2), (1, 3)], 2, 16, [.int .i64 0, .int .i64 0]⟩,
  some ⟨.st [(0, 2), (1, 3)], 2, 16, [.int .i64 0, .int .i64 0]⟩,
  some ⟨.st [(0, 3), (1, 23), (3, 9), (4, 4), (5, 3)], 6, 56, [.int .i64 0, .int .i64 0, .int .i64 0, .str [], .bool false, .int .i64 0]⟩,
  some ⟨.st [(0, 3), (1, 23), (3, 9), (4, 4), (5, 3)], 6, 56, [.int .i64 0, .int .i64 0, .int .i64 0, .str [], .bool false, .int .i64 0]⟩,
  some ⟨.st [(0, 3), (1, 3), (2, 4), (3, 4)], 4, 24, [.int .i64 0, .int .i64 0, .bool false, .bool false]⟩,
  some ⟨.st [(0, 3), (1, 3), (2, 4), (3, 4)], 4, 24, [.int .i64 0, .int .i64 0, .bool false, .bool false]⟩,
  some ⟨.st [(0, 27), (4, 27)], 8, 48, [.int .i64 0, .int .i64 0, .bool false, .bool false, .int .i64 0, .int .i64 0, .bool false, .bool false]⟩,
  some ⟨.st [(0, 27), (4, 27)], 8, 48, [.int .i64 0, .int .i64 0, .bool false, .bool false, .int .i64 0, .int .i64 0, .bool false, .bool false]⟩,
  some ⟨.sl 32, 1, 24, [.nilsl]⟩,
  some ⟨.st [(0, 3), (1, 25), (7, 29), (15, 3), (16, 3), (17, 30)], 18, 152, [.int .i64 0, .int .i64 0, .int .i64 0, .int .i64 0, .str [], .bool false, .int .i64 0, .int .i64 0, .int .i64 0, .bool false, .bool false, .int .i64 0, .int .i64 0, .bool false, .bool false, .int .i64 0, .int .i64 0, .nilsl]⟩,
  some ⟨.st [(0, 3), (1, 25), (7, 29), (15, 3), (16, 3), (17, 30)], 18, 152, [.int .i64 0, .int .i64 0, .int .i64 0, .int .i64 0, .str [], .bool false, .int .i64 0, .int .i64 0, .int .i64 0, .bool false, .bool false, .int .i64 0, .int .i64 0, .bool false, .bool false, .int .i64 0, .int .i64 0, .nilsl]⟩,
  some ⟨.st [(0, 3), (1, 3)], 2, 16, [.int .i64 0, .int .i64 0]⟩,
  some ⟨.st [(0, 3), (1, 3)], 2, 16, [.int .i64 0, .int .i64 0]⟩,
  some ⟨.fn, 1, 8, [.nilfn]⟩,
  some ⟨.fn, 1, 8, [.nilfn]⟩,
  some ⟨.int .i64, 1, 8, [.int .i64 0]⟩,
  some ⟨.other, 1, 0, []⟩,
  some ⟨.fn, 1, 8, [.nilfn]⟩,
  some ⟨.st [(0, 2), (1, 3)], 2, 16, [.int .i64 0, .int .i64 0]⟩,
  some ⟨.st [(0, 3), (1, 40), (3, 9), (4, 4), (5, 3)], 6, 56, [.int .i64 0, .int .i64 0, .int .i64 0, .str [], .bool false, .int .i64 0]⟩,
  some ⟨.st [(0, 3), (1, 40), (3, 9), (4, 4), (5, 3)], 6, 56, [.int .i64 0, .int .i64 0, .int .i64 0, .str [], .bool false, .int .i64 0]⟩,
  some ⟨.st [(0, 3), (1, 3), (2, 4), (3, 4)], 4, 24, [.int .i64 0, .int .i64 0, .bool false, .bool false]⟩,
  some ⟨.st [(0, 43), (4, 43)], 8, 48, [.int .i64 0, .int .i64 0, .bool false, .bool false, .int .i64 0, .int .i64 0, .bool false, .bool false]⟩,
  some ⟨.st [(0, 43), (4, 43)], 8, 48, [.int .i64 0, .int .i64 0, .bool false, .bool false, .int .i64 0, .int .i64 0, .bool false, .bool false]⟩,
  some ⟨.sl 48, 1, 24, [.nilsl]⟩,
  some ⟨.st [(0, 3), (1, 42), (7, 45), (15, 3), (16, 3), (17, 46)], 18, 152, [.int .i64 0, .int .i64 0, .int .i64 0, .int .i64 0, .str [], .bool false, .int .i64 0, .int .i64 0, .int .i64 0, .bool false, .bool false, .int .i64 0, .int .i64 0, .bool false, .bool false, .int .i64 0, .int .i64 0, .nilsl]⟩,
  some ⟨.st [(0, 3), (1, 42), (7, 45), (15, 3), (16, 3), (17, 46)], 18, 152, [.int .i64 0, .int .i64 0, .int .i64 0, .int .i64 0, .str [], .bool false, .int .i64 0, .int .i64 0, .int .i64 0, .bool false, .bool false, .int .i64 0, .int .i64 0, .bool false, .bool false, .int .i64 0, .int .i64 0, .nilsl]⟩,
  some ⟨.fn, 1, 8, [.nilfn]⟩,
  some ⟨.other, 1, 0, []⟩,
  some ⟨.fn, 1, 8, [.nilfn]⟩,
  some ⟨.st [(0, 3), (1, 3)], 2, 16, [.int .i64 0, .int .i64 0]⟩,
  some ⟨.fn, 1, 8, [.nilfn]⟩,
  some ⟨.fn, 1, 8, [.nilfn]⟩,
  some ⟨.other, 1, 0, []⟩,
  some ⟨.fn, 1, 8, [.nilfn]⟩,
  some ⟨.other, 1, 0, []⟩,
  some ⟨.fn, 1, 8, [.nilfn]⟩,
  some ⟨.fn, 1, 8, [.nilfn]⟩]
theorem tys0_ok : tys0 = (List.range' 0 60).map (tiOf Go.Proofs.Tryz.prog) := by kernel_rfl
def tys1 : List (Option Ti) := [
  some ⟨.fn, 1, 8, [.nilfn]⟩,
  some ⟨.fn, 1, 8, [.nilfn]⟩,
  some ⟨.fn, 1, 8, [.nilfn]⟩,
  some ⟨.fn, 1, 8, [.nilfn]⟩,
  some ⟨.fn, 1, 8, [.nilfn]⟩,
  some ⟨.fn, 1, 8, [.nilfn]⟩,
  some ⟨.fn, 1, 8, [.nilfn]⟩,
  some ⟨.fn, 1, 8, [.nilfn]⟩,
  some ⟨.sl 9, 1, 24, [.nilsl]⟩,
  some ⟨.sl 3, 1, 24, [.nilsl]⟩,
  some ⟨.fn, 1, 8, [.nilfn]⟩,
  some ⟨.fn, 1, 8, [.nilfn]⟩,
  some ⟨.fn, 1, 8, [.nilfn]⟩,
  some ⟨.fn, 1, 8, [.nilfn]⟩,
  some ⟨.fn, 1, 8, [.nilfn]⟩,
  some ⟨.fn, 1, 8, [.nilfn]⟩,
  some ⟨.ptr 3, 1, 8, [.nilptr]⟩,
  some ⟨.fn, 1, 8, [.nilfn]⟩,
  some ⟨.fn, 1, 8, [.nilfn]⟩,
  some ⟨.fn, 1, 8, [.nilfn]⟩,
  some ⟨.fn, 1, 8, [.nilfn]⟩,
  some ⟨.fn, 1, 8, [.nilfn]⟩,
  some ⟨.fn, 1, 8, [.nilfn]⟩,
  some ⟨.ptr 85, 1, 8, [.nilptr]⟩,
  some ⟨.st [(0, 9), (1, 34), (3, 3), (4, 37), (5, 3)], 6, 56, [.str [], .int .i64 0, .int .i64 0, .int .i64 0, .int .i64 0, .int .i64 0]⟩,
  some ⟨.st [(0, 9), (1, 34), (3, 3), (4, 37), (5, 3)], 6, 56, [.str [], .int .i64 0, .int .i64 0, .int .i64 0, .int .i64 0, .int .i64 0]⟩,
  some ⟨.fn, 1, 8, [.nilfn]⟩,
  some ⟨.fn, 1, 8, [.nilfn]⟩,
  some ⟨.ptr 92, 1, 8, [.nilptr]⟩,
  some ⟨.st [(0, 3), (1, 9), (2, 9), (3, 25), (9, 5)], 10, 104, [.int .i64 0, .str [], .str [], .int .i64 0, .int .i64 0, .int .i64 0, .str [], .bool false, .int .i64 0, .int .u8 0]⟩,
  some ⟨.st [(0, 3), (1, 9), (2, 9), (3, 25), (9, 5)], 10, 104, [.int .i64 0, .str [], .str [], .int .i64 0, .int .i64 0, .int .i64 0, .str [], .bool false, .int .i64 0, .int .u8 0]⟩,
  some ⟨.st [(0, 9), (1, 52), (3, 90), (13, 4), (14, 3), (15, 3), (16, 3)], 17, 168, [.str [], .int .i64 0, .int .i64 0, .int .i64 0, .str [], .str [], .int .i64 0, .int .i64 0, .int .i64 0, .str [], .bool false, .int .i64 0, .int .u8 0, .bool false, .int .i64 0, .int .i64 0, .int .i64 0]⟩,
  some ⟨.st [(0, 9), (1, 52), (3, 90), (13, 4), (14, 3), (15, 3), (16, 3)], 17, 168, [.str [], .int .i64 0, .int .i64 0, .int .i64 0, .str [], .str [], .int .i64 0, .int .i64 0, .int .i64 0, .str [], .bool false, .int .i64 0, .int .u8 0, .bool false, .int .i64 0, .int .i64 0, .int .i64 0]⟩,
  some ⟨.fn, 1, 8, [.nilfn]⟩,
  some ⟨.fn, 1, 8, [.nilfn]⟩,
  some ⟨.fn, 1, 8, [.nilfn]⟩,
  some ⟨.fn, 1, 8, [.nilfn]⟩,
  some ⟨.fn, 1, 8, [.nilfn]⟩,
  some ⟨.fn, 1, 8, [.nilfn]⟩,
  some ⟨.sl 101, 1, 24, [.nilsl]⟩,
  some ⟨.st [(0, 48), (18, 3)], 19, 160, [.int .i64 0, .int .i64 0, .int .i64 0, .int .i64 0, .str [], .bool false, .int .i64 0, .int .i64 0, .int .i64 0, .bool false, .bool false, .int .i64 0, .int .i64 0, .bool false, .bool false, .int .i64 0, .int .i64 0, .nilsl, .int .i64 0]⟩,
  some ⟨.st [(0, 48), (18, 3)], 19, 160, [.int .i64 0, .int .i64 0, .int .i64 0, .int .i64 0, .str [], .bool false, .int .i64 0, .int .i64 0, .int .i64 0, .bool false, .bool false, .int .i64 0, .int .i64 0, .bool false, .bool false, .int .i64 0, .int .i64 0, .nilsl, .int .i64 0]⟩,
  some ⟨.fn, 1, 8, [.nilfn]⟩,
  some ⟨.fn, 1, 8, [.nilfn]⟩,
  some ⟨.fn, 1, 8, [.nilfn]⟩,
  some ⟨.fn, 1, 8, [.nilfn]⟩,
  some ⟨.fn, 1, 8, [.nilfn]⟩,
  some ⟨.fn, 1, 8, [.nilfn]⟩,
  some ⟨.fn, 1, 8, [.nilfn]⟩,
  some ⟨.fn, 1, 8, [.nilfn]⟩,
  some ⟨.fn, 1, 8, [.nilfn]⟩,
  some ⟨.fn, 1, 8, [.nilfn]⟩,
  some ⟨.fn, 1, 8, [.nilfn]⟩,
  some ⟨.other, 1, 0, []⟩,
  some ⟨.fn, 1, 8, [.nilfn]⟩,
  some ⟨.fn, 1, 8, [.nilfn]⟩,
  some ⟨.fn, 1, 8, [.nilfn]⟩,
  some ⟨.fn, 1, 8, [.nilfn]⟩,
  some ⟨.fn, 1, 8, [.nilfn]⟩,
  some ⟨.fn, 1, 8, [.nilfn]⟩]
theorem tys1_ok : tys1 = (List.range' 60 60).map (tiOf Go.Proofs.Tryz.prog) := by kernel_rfl
def tys2 : List (Option Ti) := [
  some ⟨.fn, 1, 8, [.nilfn]⟩,
  some ⟨.fn, 1, 8, [.nilfn]⟩,
  some ⟨.fn, 1, 8, [.nilfn]⟩,
  some ⟨.other, 1, 0, []⟩,
  some ⟨.fn, 1, 8, [.nilfn]⟩,
  some ⟨.fn, 1, 8, [.nilfn]⟩,
  some ⟨.fn, 1, 8, [.nilfn]⟩,
  some ⟨.fn, 1, 8, [.nilfn]⟩,
  some ⟨.fn, 1, 8, [.nilfn]⟩,
  some ⟨.fn, 1, 8, [.nilfn]⟩,
  some ⟨.fn, 1, 8, [.nilfn]⟩,
  some ⟨.fn, 1, 8, [.nilfn]⟩,
  some ⟨.fn, 1, 8, [.nilfn]⟩,
  some ⟨.fn, 1, 8, [.nilfn]⟩,
  some ⟨.fn, 1, 8, [.nilfn]⟩,
  some ⟨.fn, 1, 8, [.nilfn]⟩,
  some ⟨.fn, 1, 8, [.nilfn]⟩,
  some ⟨.fn, 1, 8, [.nilfn]⟩,
  some ⟨.fn, 1, 8, [.nilfn]⟩,
  some ⟨.fn, 1, 8, [.nilfn]⟩,
  some ⟨.fn, 1, 8, [.nilfn]⟩,
  some ⟨.sl 144, 1, 24, [.nilsl]⟩,
  some ⟨.fn, 1, 8, [.nilfn]⟩,
  some ⟨.st [(0, 9), (1, 3), (2, 3)], 3, 32, [.str [], .int .i64 0, .int .i64 0]⟩,
  some ⟨.st [(0, 9), (1, 3), (2, 3)], 3, 32, [.str [], .int .i64 0, .int .i64 0]⟩,
  some ⟨.ptr 148, 1, 8, [.nilptr]⟩,
  some ⟨.sl 5, 1, 24, [.nilsl]⟩,
  some ⟨.st [(0, 145), (1, 146)], 2, 32, [.nilptr, .nilsl]⟩,
  some ⟨.st [(0, 145), (1, 146)], 2, 32, [.nilptr, .nilsl]⟩,
  some ⟨.fn, 1, 8, [.nilfn]⟩,
  some ⟨.ifc, 1, 16, [.niliface]⟩,
  some ⟨.ifc, 1, 16, [.niliface]⟩,
  some ⟨.other, 1, 0, []⟩,
  some ⟨.fn, 1, 8, [.nilfn]⟩,
  some ⟨.fn, 1, 8, [.nilfn]⟩,
  some ⟨.fn, 1, 8, [.nilfn]⟩,
  some ⟨.fn, 1, 8, [.nilfn]⟩,
  some ⟨.fn, 1, 8, [.nilfn]⟩,
  some ⟨.fn, 1, 8, [.nilfn]⟩,
  some ⟨.other, 1, 0, []⟩,
  some ⟨.fn, 1, 8, [.nilfn]⟩,
  some ⟨.fn, 1, 8, [.nilfn]⟩,
  some ⟨.other, 1, 0, []⟩,
  some ⟨.fn, 1, 8, [.nilfn]⟩,
  some ⟨.other, 1, 0, []⟩,
  some ⟨.fn, 1, 8, [.nilfn]⟩,
  some ⟨.fn, 1, 8, [.nilfn]⟩,
  some ⟨.other, 1, 0, []⟩,
  some ⟨.fn, 1, 8, [.nilfn]⟩,
  some ⟨.other, 1, 0, []⟩,
  some ⟨.fn, 1, 8, [.nilfn]⟩,
  some ⟨.fn, 1, 8, [.nilfn]⟩,
  some ⟨.fn, 1, 8, [.nilfn]⟩,
  some ⟨.fn, 1, 8, [.nilfn]⟩,
  some ⟨.fn, 1, 8, [.nilfn]⟩,
  some ⟨.other, 1, 0, []⟩,
  some ⟨.fn, 1, 8, [.nilfn]⟩,
  some ⟨.fn, 1, 8, [.nilfn]⟩,
  some ⟨.fn, 1, 8, [.nilfn]⟩,
  some ⟨.fn, 1, 8, [.nilfn]⟩]
theorem tys2_ok : tys2 = (List.range' 120 60).map (tiOf Go.Proofs.Tryz.prog) := by kernel_rfl
def tys3 : List (Option Ti) := [
  some ⟨.fn, 1, 8, [.nilfn]⟩,
  some ⟨.fn, 1, 8, [.nilfn]⟩,
  some ⟨.fn, 1, 8, [.nilfn]⟩,
  some ⟨.fn, 1, 8, [.nilfn]⟩,
  some ⟨.fn, 1, 8, [.nilfn]⟩,
  some ⟨.fn, 1, 8, [.nilfn]⟩,
  some ⟨.fn, 1, 8, [.nilfn]⟩,
  some ⟨.fn, 1, 8, [.nilfn]⟩,
  some ⟨.fn, 1, 8, [.nilfn]⟩,
  some ⟨.fn, 1, 8, [.nilfn]⟩,
  some ⟨.arr 256 4, 256, 256, [.bool false, .bool false, .bool false, .bool false, .bool false, .bool false, .bool false, .bool false, .bool false, .bool false, .bool false, .bool false, .bool false, .bool false, .bool false, .bool false, .bool false, .bool false, .bool false, .bool false, .bool false, .bool false, .bool false, .bool false, .bool false, .bool false, .bool false, .bool false, .bool false, .bool false, .bool false, .bool false, .bool false, .bool false, .bool false, .bool false, .bool false, .bool false, .bool false, .bool false, .bool false, .bool false, .bool false, .bool false, .bool false, .bool false, .bool false, .bool false, .bool false, .bool false, .bool false, .bool false, .bool false, .bool false, .bool false, .bool false, .bool false, .bool false, .bool false, .bool false, .bool false, .bool false, .bool false, .bool false, .bool false, .bool false, .bool false, .bool false, .bool false, .bool false, .bool false, .bool false, .bool false, .bool false, .bool false, .bool false, .bool false, .bool false, .bool false, .bool false, .bool false, .bool false, .bool false, .bool false, .bool false, .bool false, .bool false, .bool false, .bool false, .bool false, .bool false, .bool false, .bool false, .bool false, .bool false, .bool false, .bool false, .bool false, .bool false, .bool false, .bool false, .bool false, .bool false, .bool false, .bool false, .bool false, .bool false, .bool false, .bool false, .bool false, .bool false, .bool false, .bool false, .bool false, .bool false, .bool false, .bool false, .bool false, .bool false, .bool false, .bool false, .bool false, .bool false, .bool false, .bool false, .bool false, .bool false, .bool false, .bool false, .bool false, .bool false, .bool false, .bool false, .bool false, .bool false, .bool false, .bool false, .bool false, .bool false, .bool false, .bool false, .bool false, .bool false, .bool false, .bool false, .bool false, .bool false, .bool false, .bool false, .bool false, .bool false, .bool false, .bool false, .bool false, .bool false, .bool false, .bool false, .bool false, .bool false, .bool false, .bool false, .bool false, .bool false, .bool false, .bool false, .bool false, .bool false, .bool false, .bool false, .bool false, .bool false, .bool false, .bool false, .bool false, .bool false, .bool false, .bool false, .bool false, .bool false, .bool false, .bool false, .bool false, .bool false, .bool false, .bool false, .bool false, .bool false, .bool false, .bool false, .bool false, .bool false, .bool false, .bool false, .bool false, .bool false, .bool false, .bool false, .bool false, .bool false, .bool false, .bool false, .bool false, .bool false, .bool false, .bool false, .bool false, .bool false, .bool false, .bool false, .bool false, .bool false, .bool false, .bool false, .bool false, .bool false, .bool false, .bool false, .bool false, .bool false, .bool false, .bool false, .bool false, .bool false, .bool false, .bool false, .bool false, .bool false, .bool false, .bool false, .bool false, .bool false, .bool false, .bool false, .bool false, .bool false, .bool false, .bool false, .bool false, .bool false, .bool false, .bool false, .bool false, .bool false, .bool false, .bool false, .bool false, .bool false, .bool false, .bool false, .bool false, .bool false, .bool false, .bool false, .bool false, .bool false, .bool false]⟩,
  some ⟨.arr 256 4, 256, 256, [.bool false, .bool false, .bool false, .bool false, .bool false, .bool false, .bool false, .bool false, .bool false, .bool false, .bool false, .bool false, .bool false, .bool false, .bool false, .bool false, .bool false, .bool false, .bool false, .bool false, .bool false, .bool false, .bool false, .bool false, .bool false, .bool false, .bool false, .bool false, .bool false, .bool false, .bool false, .bool false, .bool false, .bool false, .bool false, .bool false, .bool false, .bool false, .bool false, .bool false, .bool false, .bool false, .bool false, .bool false, .bool false, .bool false, .bool false, .bool false, .bool false, .bool false, .bool false, .bool false, .bool false, .bool false, .bool false, .bool false, .bool false, .bool false, .bool false, .bool false, .bool false, .bool false, .bool false, .bool false, .bool false, .bool false, .bool false, .bool false, .bool false, .bool false, .bool false, .bool false, .bool false, .bool false, .bool false, .bool false, .bool false, .bool false, .bool false, .bool false, .bool false, .bool false, .bool false, .bool false, .bool false, .bool false, .bool false, .bool false, .bool false, .bool false, .bool false, .bool false, .bool false, .bool false, .bool false, .bool false, .bool false, .bool false, .bool false, .bool false, .bool false, .bool false, .bool false, .bool false, .bool false, .bool false, .bool false, .bool false, .bool false, .bool false, .bool false, .bool false, .bool false, .bool false, .bool false, .bool false, .bool false, .bool false, .bool false, .bool false, .bool false, .bool false, .bool false, .bool false, .bool false, .bool false, .bool false, .bool false, .bool false, .bool false, .bool false, .bool false, .bool false, .bool false, .bool false, .bool false, .bool false, .bool false, .bool false, .bool false, .bool false, .bool false, .bool false, .bool false, .bool false, .bool false, .bool false, .bool false, .bool false, .bool false, .bool false, .bool false, .bool false, .bool false, .bool false, .bool false, .bool false, .bool false, .bool false, .bool false, .bool false, .bool false, .bool false, .bool false, .bool false, .bool false, .bool false, .bool false, .bool false, .bool false, .bool false, .bool false, .bool false, .bool false, .bool false, .bool false, .bool false, .bool false, .bool false, .bool false, .bool false, .bool false, .bool false, .bool false, .bool false, .bool false, .bool false, .bool false, .bool false, .bool false, .bool false, .bool false, .bool false, .bool false, .bool false, .bool false, .bool false, .bool false, .bool false, .bool false, .bool false, .bool false, .bool false, .bool false, .bool false, .bool false, .bool false, .bool false, .bool false, .bool false, .bool false, .bool false, .bool false, .bool false, .bool false, .bool false, .bool false, .bool false, .bool false, .bool false, .bool false, .bool false, .bool false, .bool false, .bool false, .bool false, .bool false, .bool false, .bool false, .bool false, .bool false, .bool false, .bool false, .bool false, .bool false, .bool false, .bool false, .bool false, .bool false, .bool false, .bool false, .bool false, .bool false, .bool false, .bool false, .bool false, .bool false, .bool false, .bool false, .bool false, .bool false, .bool false, .bool false, .bool false, .bool false, .bool false]⟩,
  some ⟨.other, 1, 0, []⟩,
  some ⟨.fn, 1, 8, [.nilfn]⟩,
  some ⟨.ptr 5, 1, 8, [.nilptr]⟩,
  some ⟨.st [(0, 4), (1, 69)], 2, 32, [.bool false, .nilsl]⟩,
  some ⟨.st [(0, 4), (1, 69)], 2, 32, [.bool false, .nilsl]⟩,
  some ⟨.fn, 1, 8, [.nilfn]⟩,
  some ⟨.fn, 1, 8, [.nilfn]⟩,
  some ⟨.other, 1, 0, []⟩,
  some ⟨.fn, 1, 8, [.nilfn]⟩,
  some ⟨.int .u64, 1, 8, [.int .u64 0]⟩,
  some ⟨.st [(0, 201), (1, 201), (2, 4)], 3, 24, [.int .u64 0, .int .u64 0, .bool false]⟩,
  some ⟨.st [(0, 201), (1, 201), (2, 4)], 3, 24, [.int .u64 0, .int .u64 0, .bool false]⟩,
  some ⟨.fn, 1, 8, [.nilfn]⟩,
  some ⟨.fn, 1, 8, [.nilfn]⟩,
  some ⟨.fn, 1, 8, [.nilfn]⟩,
  some ⟨.other, 1, 0, []⟩,
  some ⟨.fn, 1, 8, [.nilfn]⟩,
  some ⟨.fn, 1, 8, [.nilfn]⟩,
  some ⟨.fn, 1, 8, [.nilfn]⟩,
  some ⟨.fn, 1, 8, [.nilfn]⟩,
  some ⟨.fn, 1, 8, [.nilfn]⟩,
  some ⟨.arr 24 5, 24, 24, [.int .u8 0, .int .u8 0, .int .u8 0, .int .u8 0, .int .u8 0, .int .u8 0, .int .u8 0, .int .u8 0, .int .u8 0, .int .u8 0, .int .u8 0, .int .u8 0, .int .u8 0, .int .u8 0, .int .u8 0, .int .u8 0, .int .u8 0, .int .u8 0, .int .u8 0, .int .u8 0, .int .u8 0, .int .u8 0, .int .u8 0, .int .u8 0]⟩,
  some ⟨.fn, 1, 8, [.nilfn]⟩,
  some ⟨.fn, 1, 8, [.nilfn]⟩,
  some ⟨.other, 1, 0, []⟩,
  some ⟨.fn, 1, 8, [.nilfn]⟩,
  some ⟨.other, 1, 0, []⟩,
  some ⟨.fn, 1, 8, [.nilfn]⟩,
  some ⟨.fn, 1, 8, [.nilfn]⟩,
  some ⟨.fn, 1, 8, [.nilfn]⟩,
  some ⟨.fn, 1, 8, [.nilfn]⟩,
  some ⟨.fn, 1, 8, [.nilfn]⟩,
  some ⟨.int .u64, 1, 8, [.int .u64 0]⟩,
  some ⟨.ptr 191, 1, 8, [.nilptr]⟩,
  some ⟨.other, 1, 8, [.nilptr]⟩,
  some ⟨.fn, 1, 8, [.nilfn]⟩,
  some ⟨.fn, 1, 8, [.nilfn]⟩,
  some ⟨.other, 1, 0, []⟩,
  some ⟨.fn, 1, 8, [.nilfn]⟩,
  some ⟨.fn, 1, 8, [.nilfn]⟩,
  some ⟨.fn, 1, 8, [.nilfn]⟩,
  some ⟨.fn, 1, 8, [.nilfn]⟩,
  some ⟨.arr 256 5, 256, 256, [.int .u8 0, .int .u8 0, .int .u8 0, .int .u8 0, .int .u8 0, .int .u8 0, .int .u8 0, .int .u8 0, .int .u8 0, .int .u8 0, .int .u8 0, .int .u8 0, .int .u8 0, .int .u8 0, .int .u8 0, .int .u8 0, .int .u8 0, .int .u8 0, .int .u8 0, .int .u8 0, .int .u8 0, .int .u8 0, .int .u8 0, .int .u8 0, .int .u8 0, .int .u8 0, .int .u8 0, .int .u8 0, .int .u8 0, .int .u8 0, .int .u8 0, .int .u8 0, .int .u8 0, .int .u8 0, .int .u8 0, .int .u8 0, .int .u8 0, .int .u8 0, .int .u8 0, .int .u8 0, .int .u8 0, .int .u8 0, .int .u8 0, .int .u8 0, .int .u8 0, .int .u8 0, .int .u8 0, .int .u8 0, .int .u8 0, .int .u8 0, .int .u8 0, .int .u8 0, .int .u8 0, .int .u8 0, .int .u8 0, .int .u8 0, .int .u8 0, .int .u8 0, .int .u8 0, .int .u8 0, .int .u8 0, .int .u8 0, .int .u8 0, .int .u8 0, .int .u8 0, .int .u8 0, .int .u8 0, .int .u8 0, .int .u8 0, .int .u8 0, .int .u8 0, .int .u8 0, .int .u8 0, .int .u8 0, .int .u8 0, .int .u8 0, .int .u8 0, .int .u8 0, .int .u8 0, .int .u8 0, .int .u8 0, .int .u8 0, .int .u8 0, .int .u8 0, .int .u8 0, .int .u8 0, .int .u8 0, .int .u8 0, .int .u8 0, .int .u8 0, .int .u8 0, .int .u8 0, .int .u8 0, .int .u8 0, .int .u8 0, .int .u8 0, .int .u8 0, .int .u8 0, .int .u8 0, .int .u8 0, .int .u8 0, .int .u8 0, .int .u8 0, .int .u8 0, .int .u8 0, .int .u8 0, .int .u8 0, .int .u8 0, .int .u8 0, .int .u8 0, .int .u8 0, .int .u8 0, .int .u8 0, .int .u8 0, .int .u8 0, .int .u8 0, .int .u8 0, .int .u8 0, .int .u8 0, .int .u8 0, .int .u8 0, .int .u8 0, .int .u8 0, .int .u8 0, .int .u8 0, .int .u8 0, .int .u8 0, .int .u8 0, .int .u8 0, .int .u8 0, .int .u8 0, .int .u8 0, .int .u8 0, .int .u8 0, .int .u8 0, .int .u8 0, .int .u8 0, .int .u8 0, .int .u8 0, .int .u8 0, .int .u8 0, .int .u8 0, .int .u8 0, .int .u8 0, .int .u8 0, .int .u8 0, .int .u8 0, .int .u8 0, .int .u8 0, .int .u8 0, .int .u8 0, .int .u8 0, .int .u8 0, .int .u8 0, .int .u8 0, .int .u8 0, .int .u8 0, .int .u8 0, .int .u8 0, .int .u8 0, .int .u8 0, .int .u8 0, .int .u8 0, .int .u8 0, .int .u8 0, .int .u8 0, .int .u8 0, .int .u8 0, .int .u8 0, .int .u8 0, .int .u8 0, .int .u8 0, .int .u8 0, .int .u8 0, .int .u8 0, .int .u8 0, .int .u8 0, .int .u8 0, .int .u8 0, .int .u8 0, .int .u8 0, .int .u8 0, .int .u8 0, .int .u8 0, .int .u8 0, .int .u8 0, .int .u8 0, .int .u8 0, .int .u8 0, .int .u8 0, .int .u8 0, .int .u8 0, .int .u8 0, .int .u8 0, .int .u8 0, .int .u8 0, .int .u8 0, .int .u8 0, .int .u8 0, .int .u8 0, .int .u8 0, .int .u8 0, .int .u8 0, .int .u8 0, .int .u8 0, .int .u8 0, .int .u8 0, .int .u8 0, .int .u8 0, .int .u8 0, .int .u8 0, .int .u8 0, .int .u8 0, .int .u8 0, .int .u8 0, .int .u8 0, .int .u8 0, .int .u8 0, .int .u8 0, .int .u8 0, .int .u8 0, .int .u8 0, .int .u8 0, .int .u8 0, .int .u8 0, .int .u8 0, .int .u8 0, .int .u8 0, .int .u8 0, .int .u8 0, .int .u8 0, .int .u8 0, .int .u8 0, .int .u8 0, .int .u8 0, .int .u8 0, .int .u8 0, .int .u8 0, .int .u8 0, .int .u8 0, .int .u8 0, .int .u8 0, .int .u8 0, .int .u8 0, .int .u8 0, .int .u8 0, .int .u8 0, .int .u8 0, .int .u8 0, .int .u8 0, .int .u8 0, .int .u8 0, .int .u8 0, .int .u8 0, .int .u8 0, .int .u8 0]⟩,
  some ⟨.st [(0, 5), (1, 5)], 2, 2, [.int .u8 0, .int .u8 0]⟩,
  some ⟨.st [(0, 5), (1, 5)], 2, 2, [.int .u8 0, .int .u8 0]⟩,
  some ⟨.arr 16 236, 32, 32, [.int .u8 0, .int .u8 0, .int .u8 0, .int .u8 0, .int .u8 0, .int .u8 0, .int .u8 0, .int .u8 0, .int .u8 0, .int .u8 0, .int .u8 0, .int .u8 0, .int .u8 0, .int .u8 0, .int .u8 0, .int .u8 0, .int .u8 0, .int .u8 0, .int .u8 0, .int .u8 0, .int .u8 0, .int .u8 0, .int .u8 0, .int .u8 0, .int .u8 0, .int .u8 0, .int .u8 0, .int .u8 0, .int .u8 0, .int .u8 0, .int .u8 0, .int .u8 0]⟩,
  some ⟨.fn, 1, 8, [.nilfn]⟩,
  some ⟨.fn, 1, 8, [.nilfn]⟩]
theorem tys3_ok : tys3 = (List.range' 180 60).map (tiOf Go.Proofs.Tryz.prog) := by kernel_rfl
def tys4 : List (Option Ti) := [
  some ⟨.fn, 1, 8, [.nilfn]⟩,
  some ⟨.arr 20 201, 20, 160, [.int .u64 0, .int .u64 0, .int .u64 0, .int .u64 0, .int .u64 0, .int .u64 0, .int .u64 0, .int .u64 0, .int .u64 0, .int .u64 0, .int .u64 0, .int .u64 0, .int .u64 0, .int .u64 0, .int .u64 0, .int .u64 0, .int .u64 0, .int .u64 0, .int .u64 0, .int .u64 0]⟩,
  some ⟨.int .u32, 1, 4, [.int .u32 0]⟩,
  some ⟨.arr 65 5, 65, 65, [.int .u8 0, .int .u8 0, .int .u8 0, .int .u8 0, .int .u8 0, .int .u8 0, .int .u8 0, .int .u8 0, .int .u8 0, .int .u8 0, .int .u8 0, .int .u8 0, .int .u8 0, .int .u8 0, .int .u8 0, .int .u8 0, .int .u8 0, .int .u8 0, .int .u8 0, .int .u8 0, .int .u8 0, .int .u8 0, .int .u8 0, .int .u8 0, .int .u8 0, .int .u8 0, .int .u8 0, .int .u8 0, .int .u8 0, .int .u8 0, .int .u8 0, .int .u8 0, .int .u8 0, .int .u8 0, .int .u8 0, .int .u8 0, .int .u8 0, .int .u8 0, .int .u8 0, .int .u8 0, .int .u8 0, .int .u8 0, .int .u8 0, .int .u8 0, .int .u8 0, .int .u8 0, .int .u8 0, .int .u8 0, .int .u8 0, .int .u8 0, .int .u8 0, .int .u8 0, .int .u8 0, .int .u8 0, .int .u8 0, .int .u8 0, .int .u8 0, .int .u8 0, .int .u8 0, .int .u8 0, .int .u8 0, .int .u8 0, .int .u8 0, .int .u8 0, .int .u8 0]⟩,
  some ⟨.fn, 1, 8, [.nilfn]⟩,
  some ⟨.other, 1, 0, []⟩,
  some ⟨.fn, 1, 8, [.nilfn]⟩,
  some ⟨.fn, 1, 8, [.nilfn]⟩,
  some ⟨.fn, 1, 8, [.nilfn]⟩,
  some ⟨.fn, 1, 8, [.nilfn]⟩,
  some ⟨.other, 1, 0, []⟩,
  some ⟨.fn, 1, 8, [.nilfn]⟩,
  some ⟨.fn, 1, 8, [.nilfn]⟩,
  some ⟨.fn, 1, 8, [.nilfn]⟩,
  some ⟨.fn, 1, 8, [.nilfn]⟩,
  some ⟨.other, 1, 0, []⟩,
  some ⟨.fn, 1, 8, [.nilfn]⟩,
  some ⟨.other, 1, 0, []⟩,
  some ⟨.fn, 1, 8, [.nilfn]⟩,
  some ⟨.fn, 1, 8, [.nilfn]⟩,
  some ⟨.other, 1, 0, []⟩,
  some ⟨.fn, 1, 8, [.nilfn]⟩,
  some ⟨.fn, 1, 8, [.nilfn]⟩,
  some ⟨.other, 1, 0, []⟩,
  some ⟨.fn, 1, 8, [.nilfn]⟩,
  some ⟨.arr 32 5, 32, 32, [.int .u8 0, .int .u8 0, .int .u8 0, .int .u8 0, .int .u8 0, .int .u8 0, .int .u8 0, .int .u8 0, .int .u8 0, .int .u8 0, .int .u8 0, .int .u8 0, .int .u8 0, .int .u8 0, .int .u8 0, .int .u8 0, .int .u8 0, .int .u8 0, .int .u8 0, .int .u8 0, .int .u8 0, .int .u8 0, .int .u8 0, .int .u8 0, .int .u8 0, .int .u8 0, .int .u8 0, .int .u8 0, .int .u8 0, .int .u8 0, .int .u8 0, .int .u8 0]⟩,
  some ⟨.arr 64 5, 64, 64, [.int .u8 0, .int .u8 0, .int .u8 0, .int .u8 0, .int .u8 0, .int .u8 0, .int .u8 0, .int .u8 0, .int .u8 0, .int .u8 0, .int .u8 0, .int .u8 0, .int .u8 0, .int .u8 0, .int .u8 0, .int .u8 0, .int .u8 0, .int .u8 0, .int .u8 0, .int .u8 0, .int .u8 0, .int .u8 0, .int .u8 0, .int .u8 0, .int .u8 0, .int .u8 0, .int .u8 0, .int .u8 0, .int .u8 0, .int .u8 0, .int .u8 0, .int .u8 0, .int .u8 0, .int .u8 0, .int .u8 0, .int .u8 0, .int .u8 0, .int .u8 0, .int .u8 0, .int .u8 0, .int .u8 0, .int .u8 0, .int .u8 0, .int .u8 0, .int .u8 0, .int .u8 0, .int .u8 0, .int .u8 0, .int .u8 0, .int .u8 0, .int .u8 0, .int .u8 0, .int .u8 0, .int .u8 0, .int .u8 0, .int .u8 0, .int .u8 0, .int .u8 0, .int .u8 0, .int .u8 0, .int .u8 0, .int .u8 0, .int .u8 0, .int .u8 0]⟩,
  some ⟨.fn, 1, 8, [.nilfn]⟩,
  some ⟨.int .i64, 1, 8, [.int .i64 0]⟩,
  some ⟨.other, 1, 0, []⟩,
  some ⟨.fn, 1, 8, [.nilfn]⟩,
  some ⟨.ptr 281, 1, 8, [.nilptr]⟩,
  some ⟨.fn, 1, 8, [.nilfn]⟩,
  some ⟨.fn, 1, 8, [.nilfn]⟩,
  some ⟨.fn, 1, 8, [.nilfn]⟩,
  some ⟨.fn, 1, 8, [.nilfn]⟩,
  some ⟨.other, 1, 0, []⟩,
  some ⟨.fn, 1, 8, [.nilfn]⟩,
  some ⟨.fn, 1, 8, [.nilfn]⟩,
  some ⟨.fn, 1, 8, [.nilfn]⟩,
  none,
  none,
  some ⟨.fn, 1, 8, [.nilfn]⟩,
  some ⟨.fn, 1, 8, [.nilfn]⟩,
  some ⟨.ptr 286, 1, 8, [.nilptr]⟩,
  some ⟨.st [(0, 9)], 1, 16, [.str []]⟩,
  some ⟨.st [(0, 9)], 1, 16, [.str []]⟩,
  none,
  none,
  some ⟨.arr 0 16, 0, 0, []⟩,
  none,
  none,
  some ⟨.int .u8, 1, 1, [.int .u8 0]⟩,
  some ⟨.int .u8, 1, 1, [.int .u8 0]⟩,
  some ⟨.fn, 1, 8, [.nilfn]⟩,
  some ⟨.int .i32, 1, 4, [.int .i32 0]⟩,
  some ⟨.int .i32, 1, 4, [.int .i32 0]⟩,
  none,
  none,
  some ⟨.fn, 1, 8, [.nilfn]⟩]
theorem tys4_ok : tys4 = (List.range' 240 60).map (tiOf Go.Proofs.Tryz.prog) := by kernel_rfl
def nth {α : Type} : List (Option α) -> Nat -> Option α
  | [], _ => none
  | x :: _, 0 => x
  | _ :: l, n + 1 => nth l n
theorem nth_eq {α : Type} : ∀ (l : List (Option α)) (n : Nat), nth l n = (l[n]?).getD none
  | [], n => by simp [nth]
  | x :: l, 0 => rfl
  | x :: l, n + 1 => by simp [nth, nth_eq l n]
def tys : Nat -> Option Ti := fun t => bif Nat.ble 300 t then none else bif Nat.ble 180 t then (bif Nat.ble 240 t then nth tys4 (t - 240) else nth tys3 (t - 180)) else bif Nat.ble 120 t then nth tys2 (t - 120) else bif Nat.ble 60 t then nth tys1 (t - 60) else nth tys0 t
theorem nth_range {s n t : Nat} {ti : Ti} {l : List (Option Ti)} (hl : l = (List.range' s n).map (tiOf Go.Proofs.Tryz.prog)) (h : nth l t = some ti) : tiOf Go.Proofs.Tryz.prog (s + t) = some ti := by
  rw [nth_eq, hl, List.getElem?_map] at h
  cases hr : (List.range' s n)[t]? with
  | none => rw [hr] at h; simp at h
  | some k =>
    rw [hr] at h
    have hk : k = s + t := by
      have := List.getElem?_eq_some_iff.1 hr
      obtain ⟨_, h2⟩ := this
      simp at h2; omega
    subst hk
    simpa using h
theorem tys_ok (t : Nat) (ti : Ti) (h : tys t = some ti) : TiOK Go.Proofs.Tryz.prog t ti := by
  apply tiOf_ok
  unfold tys at h
  cases h5 : Nat.ble 300 t with
  | true => simp [h5] at h
  | false =>
    cases h3 : Nat.ble 180 t with
    | true =>
      have h3' := Nat.le_of_ble_eq_true h3
      cases h4 : Nat.ble 240 t with
      | true =>
        have h4' := Nat.le_of_ble_eq_true h4
        simp only [h5, h3, h4, cond_true, cond_false] at h
        have := nth_range tys4_ok h
        rwa [show 240 + (t - 240) = t by omega] at this
      | false =>
        simp only [h5, h3, h4, cond_true, cond_false] at h
        have := nth_range tys3_ok h
        rwa [show 180 + (t - 180) = t by omega] at this
    | false =>
      cases h2 : Nat.ble 120 t with
      | true =>
        have h2' := Nat.le_of_ble_eq_true h2
        simp only [h5, h3, h2, cond_true, cond_false] at h
        have := nth_range tys2_ok h
        rwa [show 120 + (t - 120) = t by omega] at this
      | false =>
        cases h1 : Nat.ble 60 t with
        | true =>
          have h1' := Nat.le_of_ble_eq_true h1
          simp only [h5, h3, h2, h1, cond_true, cond_false] at h
          have := nth_range tys1_ok h
          rwa [show 60 + (t - 60) = t by omega] at this
        | false =>
          simp only [h5, h3, h2, h1, cond_true, cond_false] at h
          have := nth_range tys0_ok h
          rwa [show 0 + t = t by omega] at this
noncomputable def cfg : Cfg := { T := tys, F := fiOf Go.Proofs.Tryz.prog, prim := fun _ => none, glob := fun _ => none, live := fun _ _ => none, scal := fun _ => false, own := fun g => Nat.beq g 43, keep := fun f d => (Nat.beq f 48 && Nat.beq d 10) || (Nat.beq f 43 && Nat.beq d 5) }
end Go.Det.Sea
end
