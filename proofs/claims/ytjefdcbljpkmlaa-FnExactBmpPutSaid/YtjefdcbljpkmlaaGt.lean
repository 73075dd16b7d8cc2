/- The seat's types as a table; functions are entered. -/
import Derived.Test.YtjefdcbljpkmlaaProg
import Derived.Test.YtjefdcbljpkmlaaGh
import Derived.KernelRfl
set_option linter.unusedVariables false
namespace Go.Proofs.Ytjefdcbljpkmlaa.G
open Go
def tyL : List (Nat × TyI) := [
  (2, ⟨.int .i64, 1, 8, (.int .i64 0)⟩),
  (3, ⟨.int .i64, 1, 8, (.int .i64 0)⟩),
  (4, ⟨.bool, 1, 1, (.bool false)⟩),
  (5, ⟨.int .u8, 1, 1, (.int .u8 0)⟩),
  (6, ⟨.int .u8, 1, 1, (.int .u8 0)⟩),
  (7, ⟨.struct [(0, 2), (1, 3), (2, 4), (3, 6)], 4, 24, (.agg #[(.int .i64 0), (.int .i64 0), (.bool false), (.int .u8 0)])⟩),
  (8, ⟨.struct [(0, 2), (1, 3), (2, 4), (3, 6)], 4, 24, (.agg #[(.int .i64 0), (.int .i64 0), (.bool false), (.int .u8 0)])⟩),
  (9, ⟨.str, 1, 16, (.string ⟨#[]⟩)⟩),
  (10, ⟨.str, 1, 16, (.string ⟨#[]⟩)⟩),
  (11, ⟨.str, 1, 16, (.string ⟨#[]⟩)⟩),
  (12, ⟨.int .u64, 1, 8, (.int .u64 0)⟩),
  (13, ⟨.struct [(0, 9), (1, 12)], 2, 24, (.agg #[(.string ⟨#[]⟩), (.int .u64 0)])⟩),
  (14, ⟨.struct [(0, 9), (1, 12)], 2, 24, (.agg #[(.string ⟨#[]⟩), (.int .u64 0)])⟩),
  (15, ⟨.ptr, 1, 8, (.pointer none)⟩),
  (16, ⟨.ptr, 1, 8, (.pointer none)⟩),
  (17, ⟨.ptr, 1, 8, (.pointer none)⟩),
  (18, ⟨.struct [(0, 17)], 1, 8, (.agg #[(.pointer none)])⟩),
  (19, ⟨.struct [(0, 17)], 1, 8, (.agg #[(.pointer none)])⟩),
  (21, ⟨.int .i32, 1, 4, (.int .i32 0)⟩),
  (22, ⟨.slice 3, 1, 24, (.slice none 0 0)⟩),
  (23, ⟨.struct [(0, 3), (1, 3), (2, 3), (3, 3), (4, 22), (5, 22)], 6, 80, (.agg #[(.int .i64 0), (.int .i64 0), (.int .i64 0), (.int .i64 0), (.slice none 0 0), (.slice none 0 0)])⟩),
  (24, ⟨.struct [(0, 3), (1, 3), (2, 3), (3, 3), (4, 22), (5, 22)], 6, 80, (.agg #[(.int .i64 0), (.int .i64 0), (.int .i64 0), (.int .i64 0), (.slice none 0 0), (.slice none 0 0)])⟩),
  (27, ⟨.struct [(0, 3), (1, 3), (2, 3), (3, 3), (4, 22), (5, 22)], 6, 80, (.agg #[(.int .i64 0), (.int .i64 0), (.int .i64 0), (.int .i64 0), (.slice none 0 0), (.slice none 0 0)])⟩),
  (35, ⟨.slice 5, 1, 24, (.slice none 0 0)⟩),
  (61, ⟨.slice 22, 1, 24, (.slice none 0 0)⟩),
  (71, ⟨.ptr, 1, 8, (.pointer none)⟩),
  (72, ⟨.struct [(0, 9), (1, 3), (2, 4)], 3, 32, (.agg #[(.string ⟨#[]⟩), (.int .i64 0), (.bool false)])⟩),
  (73, ⟨.struct [(0, 9), (1, 3), (2, 4)], 3, 32, (.agg #[(.string ⟨#[]⟩), (.int .i64 0), (.bool false)])⟩),
  (78, ⟨.ptr, 1, 8, (.pointer none)⟩),
  (82, ⟨.int .u64, 1, 8, (.int .u64 0)⟩),
  (85, ⟨.ptr, 1, 8, (.pointer none)⟩),
  (86, ⟨.struct [(0, 9), (1, 3), (2, 4)], 3, 32, (.agg #[(.string ⟨#[]⟩), (.int .i64 0), (.bool false)])⟩),
  (87, ⟨.struct [(0, 9), (1, 3), (2, 4)], 3, 32, (.agg #[(.string ⟨#[]⟩), (.int .i64 0), (.bool false)])⟩),
  (96, ⟨.func, 1, 8, .nilFunc⟩),
  (102, ⟨.slice 108, 1, 24, (.slice none 0 0)⟩),
  (104, ⟨.ptr, 1, 8, (.pointer none)⟩),
  (105, ⟨.struct [(0, 3), (1, 4), (2, 3), (3, 4)], 4, 32, (.agg #[(.int .i64 0), (.bool false), (.int .i64 0), (.bool false)])⟩),
  (106, ⟨.struct [(0, 3), (1, 4), (2, 3), (3, 4)], 4, 32, (.agg #[(.int .i64 0), (.bool false), (.int .i64 0), (.bool false)])⟩),
  (107, ⟨.struct [(0, 3), (1, 3)], 2, 16, (.agg #[(.int .i64 0), (.int .i64 0)])⟩),
  (108, ⟨.struct [(0, 3), (1, 3)], 2, 16, (.agg #[(.int .i64 0), (.int .i64 0)])⟩),
  (109, ⟨.map 9 3, 1, 8, (.map none)⟩),
  (113, ⟨.ptr, 1, 8, (.pointer none)⟩),
  (116, ⟨.slice 9, 1, 24, (.slice none 0 0)⟩),
  (117, ⟨.struct [(0, 106), (4, 116), (5, 9), (6, 9), (7, 22)], 8, 112, (.agg #[(.int .i64 0), (.bool false), (.int .i64 0), (.bool false), (.slice none 0 0), (.string ⟨#[]⟩), (.string ⟨#[]⟩), (.slice none 0 0)])⟩),
  (118, ⟨.struct [(0, 106), (4, 116), (5, 9), (6, 9), (7, 22)], 8, 112, (.agg #[(.int .i64 0), (.bool false), (.int .i64 0), (.bool false), (.slice none 0 0), (.string ⟨#[]⟩), (.string ⟨#[]⟩), (.slice none 0 0)])⟩),
  (121, ⟨.ptr, 1, 8, (.pointer none)⟩),
  (123, ⟨.struct [(0, 9), (1, 3), (2, 4), (3, 3), (4, 3), (5, 116), (6, 9), (7, 35), (8, 22), (9, 3)], 10, 144, (.agg #[(.string ⟨#[]⟩), (.int .i64 0), (.bool false), (.int .i64 0), (.int .i64 0), (.slice none 0 0), (.string ⟨#[]⟩), (.slice none 0 0), (.slice none 0 0), (.int .i64 0)])⟩),
  (124, ⟨.struct [(0, 9), (1, 3), (2, 4), (3, 3), (4, 3), (5, 116), (6, 9), (7, 35), (8, 22), (9, 3)], 10, 144, (.agg #[(.string ⟨#[]⟩), (.int .i64 0), (.bool false), (.int .i64 0), (.int .i64 0), (.slice none 0 0), (.string ⟨#[]⟩), (.slice none 0 0), (.slice none 0 0), (.int .i64 0)])⟩),
  (148, ⟨.ptr, 1, 8, (.pointer none)⟩),
  (150, ⟨.func, 1, 8, .nilFunc⟩),
  (152, ⟨.struct [(0, 35), (1, 3)], 2, 32, (.agg #[(.slice none 0 0), (.int .i64 0)])⟩),
  (153, ⟨.struct [(0, 35), (1, 3)], 2, 32, (.agg #[(.slice none 0 0), (.int .i64 0)])⟩),
  (162, ⟨.ptr, 1, 8, (.pointer none)⟩),
  (163, ⟨.struct [(0, 35), (1, 3), (2, 4)], 3, 40, (.agg #[(.slice none 0 0), (.int .i64 0), (.bool false)])⟩),
  (164, ⟨.struct [(0, 35), (1, 3), (2, 4)], 3, 40, (.agg #[(.slice none 0 0), (.int .i64 0), (.bool false)])⟩),
  (170, ⟨.ptr, 1, 8, (.pointer none)⟩),
  (171, ⟨.struct [(0, 170), (1, 35)], 2, 32, (.agg #[(.pointer none), (.slice none 0 0)])⟩),
  (172, ⟨.struct [(0, 170), (1, 35)], 2, 32, (.agg #[(.pointer none), (.slice none 0 0)])⟩),
  (180, ⟨.ptr, 1, 8, (.pointer none)⟩),
  (181, ⟨.struct [(0, 9), (1, 3), (2, 61), (3, 3), (4, 3), (5, 4)], 6, 72, (.agg #[(.string ⟨#[]⟩), (.int .i64 0), (.slice none 0 0), (.int .i64 0), (.int .i64 0), (.bool false)])⟩),
  (182, ⟨.struct [(0, 9), (1, 3), (2, 61), (3, 3), (4, 3), (5, 4)], 6, 72, (.agg #[(.string ⟨#[]⟩), (.int .i64 0), (.slice none 0 0), (.int .i64 0), (.int .i64 0), (.bool false)])⟩),
  (186, ⟨.ptr, 1, 8, (.pointer none)⟩),
  (187, ⟨.struct [(0, 61), (1, 3), (2, 3)], 3, 40, (.agg #[(.slice none 0 0), (.int .i64 0), (.int .i64 0)])⟩),
  (188, ⟨.struct [(0, 61), (1, 3), (2, 3)], 3, 40, (.agg #[(.slice none 0 0), (.int .i64 0), (.int .i64 0)])⟩),
  (193, ⟨.arr 2 3, 2, 16, (.agg #[(.int .i64 0), (.int .i64 0)])⟩),
  (194, ⟨.slice 193, 1, 24, (.slice none 0 0)⟩),
  (195, ⟨.ptr, 1, 8, (.pointer none)⟩),
  (198, ⟨.int .u32, 1, 4, (.int .u32 0)⟩),
  (201, ⟨.int .u64, 1, 8, (.int .u64 0)⟩),
  (207, ⟨.struct [(0, 17), (1, 17), (2, 17), (3, 9)], 4, 40, (.agg #[(.pointer none), (.pointer none), (.pointer none), (.string ⟨#[]⟩)])⟩),
  (208, ⟨.struct [(0, 17), (1, 17), (2, 17), (3, 9)], 4, 40, (.agg #[(.pointer none), (.pointer none), (.pointer none), (.string ⟨#[]⟩)])⟩),
  (209, ⟨.arr 0 16, 0, 0, (.agg #[])⟩),
  (210, ⟨.struct [(0, 209)], 0, 0, (.agg #[])⟩),
  (211, ⟨.struct [(0, 209)], 0, 0, (.agg #[])⟩),
  (212, ⟨.int .u8, 1, 1, (.int .u8 0)⟩),
  (213, ⟨.int .u8, 1, 1, (.int .u8 0)⟩),
  (215, ⟨.int .i32, 1, 4, (.int .i32 0)⟩),
  (216, ⟨.int .i32, 1, 4, (.int .i32 0)⟩),
  (217, ⟨.struct [(0, 12), (1, 12), (2, 198), (3, 212), (4, 5), (5, 5), (6, 213), (7, 214), (8, 195), (9, 215), (10, 216)], 11, 48, (.agg #[(.int .u64 0), (.int .u64 0), (.int .u32 0), (.int .u8 0), (.int .u8 0), (.int .u8 0), (.int .u8 0), .nilFunc, (.pointer none), (.int .i32 0), (.int .i32 0)])⟩),
  (218, ⟨.struct [(0, 12), (1, 12), (2, 198), (3, 212), (4, 5), (5, 5), (6, 213), (7, 214), (8, 195), (9, 215), (10, 216)], 11, 48, (.agg #[(.int .u64 0), (.int .u64 0), (.int .u32 0), (.int .u8 0), (.int .u8 0), (.int .u8 0), (.int .u8 0), .nilFunc, (.pointer none), (.int .i32 0), (.int .i32 0)])⟩)]
def tyT : Tys := lkT tyL
theorem tyT_all : ∀ p ∈ tyL, TyOk Try.prog p.1 p.2 := by
  intro p hp
  simp only [tyL, List.mem_cons, List.not_mem_nil, or_false] at hp
  rcases hp with rfl | rfl | rfl | rfl | rfl | rfl | rfl | rfl | rfl | rfl | rfl | rfl | rfl | rfl | rfl | rfl | rfl | rfl | rfl | rfl | rfl | rfl | rfl | rfl | rfl | rfl | rfl | rfl | rfl | rfl | rfl | rfl | rfl | rfl | rfl | rfl | rfl | rfl | rfl | rfl | rfl | rfl | rfl | rfl | rfl | rfl | rfl | rfl | rfl | rfl | rfl | rfl | rfl | rfl | rfl | rfl | rfl | rfl | rfl | rfl | rfl | rfl | rfl | rfl | rfl | rfl | rfl | rfl | rfl | rfl | rfl | rfl | rfl | rfl | rfl | rfl | rfl | rfl | rfl | rfl
  · exact tyOk_of (by kernel_rfl) ⟨_, Try.underlying2, rfl⟩
  · exact tyOk_of (by kernel_rfl) ⟨_, Try.underlying3, rfl⟩
  · exact tyOk_of (by kernel_rfl) ⟨_, Try.underlying4, rfl⟩
  · exact tyOk_of (by kernel_rfl) ⟨_, Try.underlying5, rfl⟩
  · exact tyOk_of (by kernel_rfl) ⟨_, Try.underlying6, rfl⟩
  · exact tyOk_of (by kernel_rfl) ⟨_, Try.underlying7, ⟨_, rfl, by kernel_rfl⟩⟩
  · exact tyOk_of (by kernel_rfl) ⟨_, Try.underlying8, ⟨_, rfl, by kernel_rfl⟩⟩
  · exact tyOk_of (by kernel_rfl) ⟨_, Try.underlying9, rfl⟩
  · exact tyOk_of (by kernel_rfl) ⟨_, Try.underlying10, rfl⟩
  · exact tyOk_of (by kernel_rfl) ⟨_, Try.underlying11, rfl⟩
  · exact tyOk_of (by kernel_rfl) ⟨_, Try.underlying12, rfl⟩
  · exact tyOk_of (by kernel_rfl) ⟨_, Try.underlying13, ⟨_, rfl, by kernel_rfl⟩⟩
  · exact tyOk_of (by kernel_rfl) ⟨_, Try.underlying14, ⟨_, rfl, by kernel_rfl⟩⟩
  · exact tyOk_of (by kernel_rfl) ⟨_, Try.underlying15, ⟨_, rfl⟩⟩
  · exact tyOk_of (by kernel_rfl) ⟨_, Try.underlying16, ⟨_, rfl⟩⟩
  · exact tyOk_of (by kernel_rfl) ⟨_, Try.underlying17, ⟨_, rfl⟩⟩
  · exact tyOk_of (by kernel_rfl) ⟨_, Try.underlying18, ⟨_, rfl, by kernel_rfl⟩⟩
  · exact tyOk_of (by kernel_rfl) ⟨_, Try.underlying19, ⟨_, rfl, by kernel_rfl⟩⟩
  · exact tyOk_of (by kernel_rfl) ⟨_, Try.underlying21, rfl⟩
  · exact tyOk_of (by kernel_rfl) ⟨_, Try.underlying22, rfl⟩
  · exact tyOk_of (by kernel_rfl) ⟨_, Try.underlying23, ⟨_, rfl, by kernel_rfl⟩⟩
  · exact tyOk_of (by kernel_rfl) ⟨_, Try.underlying24, ⟨_, rfl, by kernel_rfl⟩⟩
  · exact tyOk_of (by kernel_rfl) ⟨_, Try.underlying27, ⟨_, rfl, by kernel_rfl⟩⟩
  · exact tyOk_of (by kernel_rfl) ⟨_, Try.underlying35, rfl⟩
  · exact tyOk_of (by kernel_rfl) ⟨_, Try.underlying61, rfl⟩
  · exact tyOk_of (by kernel_rfl) ⟨_, Try.underlying71, ⟨_, rfl⟩⟩
  · exact tyOk_of (by kernel_rfl) ⟨_, Try.underlying72, ⟨_, rfl, by kernel_rfl⟩⟩
  · exact tyOk_of (by kernel_rfl) ⟨_, Try.underlying73, ⟨_, rfl, by kernel_rfl⟩⟩
  · exact tyOk_of (by kernel_rfl) ⟨_, Try.underlying78, ⟨_, rfl⟩⟩
  · exact tyOk_of (by kernel_rfl) ⟨_, Try.underlying82, rfl⟩
  · exact tyOk_of (by kernel_rfl) ⟨_, Try.underlying85, ⟨_, rfl⟩⟩
  · exact tyOk_of (by kernel_rfl) ⟨_, Try.underlying86, ⟨_, rfl, by kernel_rfl⟩⟩
  · exact tyOk_of (by kernel_rfl) ⟨_, Try.underlying87, ⟨_, rfl, by kernel_rfl⟩⟩
  · exact tyOk_of (by kernel_rfl) ⟨_, Try.underlying96, ⟨_, _, _, rfl⟩⟩
  · exact tyOk_of (by kernel_rfl) ⟨_, Try.underlying102, rfl⟩
  · exact tyOk_of (by kernel_rfl) ⟨_, Try.underlying104, ⟨_, rfl⟩⟩
  · exact tyOk_of (by kernel_rfl) ⟨_, Try.underlying105, ⟨_, rfl, by kernel_rfl⟩⟩
  · exact tyOk_of (by kernel_rfl) ⟨_, Try.underlying106, ⟨_, rfl, by kernel_rfl⟩⟩
  · exact tyOk_of (by kernel_rfl) ⟨_, Try.underlying107, ⟨_, rfl, by kernel_rfl⟩⟩
  · exact tyOk_of (by kernel_rfl) ⟨_, Try.underlying108, ⟨_, rfl, by kernel_rfl⟩⟩
  · exact tyOk_of (by kernel_rfl) ⟨_, Try.underlying109, rfl⟩
  · exact tyOk_of (by kernel_rfl) ⟨_, Try.underlying113, ⟨_, rfl⟩⟩
  · exact tyOk_of (by kernel_rfl) ⟨_, Try.underlying116, rfl⟩
  · exact tyOk_of (by kernel_rfl) ⟨_, Try.underlying117, ⟨_, rfl, by kernel_rfl⟩⟩
  · exact tyOk_of (by kernel_rfl) ⟨_, Try.underlying118, ⟨_, rfl, by kernel_rfl⟩⟩
  · exact tyOk_of (by kernel_rfl) ⟨_, Try.underlying121, ⟨_, rfl⟩⟩
  · exact tyOk_of (by kernel_rfl) ⟨_, Try.underlying123, ⟨_, rfl, by kernel_rfl⟩⟩
  · exact tyOk_of (by kernel_rfl) ⟨_, Try.underlying124, ⟨_, rfl, by kernel_rfl⟩⟩
  · exact tyOk_of (by kernel_rfl) ⟨_, Try.underlying148, ⟨_, rfl⟩⟩
  · exact tyOk_of (by kernel_rfl) ⟨_, Try.underlying150, ⟨_, _, _, rfl⟩⟩
  · exact tyOk_of (by kernel_rfl) ⟨_, Try.underlying152, ⟨_, rfl, by kernel_rfl⟩⟩
  · exact tyOk_of (by kernel_rfl) ⟨_, Try.underlying153, ⟨_, rfl, by kernel_rfl⟩⟩
  · exact tyOk_of (by kernel_rfl) ⟨_, Try.underlying162, ⟨_, rfl⟩⟩
  · exact tyOk_of (by kernel_rfl) ⟨_, Try.underlying163, ⟨_, rfl, by kernel_rfl⟩⟩
  · exact tyOk_of (by kernel_rfl) ⟨_, Try.underlying164, ⟨_, rfl, by kernel_rfl⟩⟩
  · exact tyOk_of (by kernel_rfl) ⟨_, Try.underlying170, ⟨_, rfl⟩⟩
  · exact tyOk_of (by kernel_rfl) ⟨_, Try.underlying171, ⟨_, rfl, by kernel_rfl⟩⟩
  · exact tyOk_of (by kernel_rfl) ⟨_, Try.underlying172, ⟨_, rfl, by kernel_rfl⟩⟩
  · exact tyOk_of (by kernel_rfl) ⟨_, Try.underlying180, ⟨_, rfl⟩⟩
  · exact tyOk_of (by kernel_rfl) ⟨_, Try.underlying181, ⟨_, rfl, by kernel_rfl⟩⟩
  · exact tyOk_of (by kernel_rfl) ⟨_, Try.underlying182, ⟨_, rfl, by kernel_rfl⟩⟩
  · exact tyOk_of (by kernel_rfl) ⟨_, Try.underlying186, ⟨_, rfl⟩⟩
  · exact tyOk_of (by kernel_rfl) ⟨_, Try.underlying187, ⟨_, rfl, by kernel_rfl⟩⟩
  · exact tyOk_of (by kernel_rfl) ⟨_, Try.underlying188, ⟨_, rfl, by kernel_rfl⟩⟩
  · exact tyOk_of (by kernel_rfl) ⟨_, Try.underlying193, rfl⟩
  · exact tyOk_of (by kernel_rfl) ⟨_, Try.underlying194, rfl⟩
  · exact tyOk_of (by kernel_rfl) ⟨_, Try.underlying195, ⟨_, rfl⟩⟩
  · exact tyOk_of (by kernel_rfl) ⟨_, Try.underlying198, rfl⟩
  · exact tyOk_of (by kernel_rfl) ⟨_, Try.underlying201, rfl⟩
  · exact tyOk_of (by kernel_rfl) ⟨_, Try.underlying207, ⟨_, rfl, by kernel_rfl⟩⟩
  · exact tyOk_of (by kernel_rfl) ⟨_, Try.underlying208, ⟨_, rfl, by kernel_rfl⟩⟩
  · exact tyOk_of (by kernel_rfl) ⟨_, Try.underlying209, rfl⟩
  · exact tyOk_of (by kernel_rfl) ⟨_, Try.underlying210, ⟨_, rfl, by kernel_rfl⟩⟩
  · exact tyOk_of (by kernel_rfl) ⟨_, Try.underlying211, ⟨_, rfl, by kernel_rfl⟩⟩
  · exact tyOk_of (by kernel_rfl) ⟨_, Try.underlying212, rfl⟩
  · exact tyOk_of (by kernel_rfl) ⟨_, Try.underlying213, rfl⟩
  · exact tyOk_of (by kernel_rfl) ⟨_, Try.underlying215, rfl⟩
  · exact tyOk_of (by kernel_rfl) ⟨_, Try.underlying216, rfl⟩
  · exact tyOk_of (by kernel_rfl) ⟨_, Try.underlying217, ⟨_, rfl, by kernel_rfl⟩⟩
  · exact tyOk_of (by kernel_rfl) ⟨_, Try.underlying218, ⟨_, rfl, by kernel_rfl⟩⟩
theorem tyT_ok : TysOk Try.prog tyT := fun t i h => tyT_all (t, i) (lkT_mem h)
theorem ent2 : Ent Try.prog 2 := ent_of Try.func2 (by kernel_rfl) rfl
theorem ent3 : Ent Try.prog 3 := ent_of Try.func3 (by kernel_rfl) rfl
theorem ent4 : Ent Try.prog 4 := ent_of Try.func4 (by kernel_rfl) rfl
theorem ent5 : Ent Try.prog 5 := ent_of Try.func5 (by kernel_rfl) rfl
theorem ent6 : Ent Try.prog 6 := ent_of Try.func6 (by kernel_rfl) rfl
theorem ent7 : Ent Try.prog 7 := ent_of Try.func7 (by kernel_rfl) rfl
theorem ent8 : Ent Try.prog 8 := ent_of Try.func8 (by kernel_rfl) rfl
theorem ent9 : Ent Try.prog 9 := ent_of Try.func9 (by kernel_rfl) rfl
theorem ent10 : Ent Try.prog 10 := ent_of Try.func10 (by kernel_rfl) rfl
theorem ent11 : Ent Try.prog 11 := ent_of Try.func11 (by kernel_rfl) rfl
theorem ent12 : Ent Try.prog 12 := ent_of Try.func12 (by kernel_rfl) rfl
theorem ent13 : Ent Try.prog 13 := ent_of Try.func13 (by kernel_rfl) rfl
theorem ent14 : Ent Try.prog 14 := ent_of Try.func14 (by kernel_rfl) rfl
theorem ent15 : Ent Try.prog 15 := ent_of Try.func15 (by kernel_rfl) rfl
theorem ent16 : Ent Try.prog 16 := ent_of Try.func16 (by kernel_rfl) rfl
theorem ent17 : Ent Try.prog 17 := ent_of Try.func17 (by kernel_rfl) rfl
theorem ent18 : Ent Try.prog 18 := ent_of Try.func18 (by kernel_rfl) rfl
theorem ent19 : Ent Try.prog 19 := ent_of Try.func19 (by kernel_rfl) rfl
theorem ent20 : Ent Try.prog 20 := ent_of Try.func20 (by kernel_rfl) rfl
theorem ent21 : Ent Try.prog 21 := ent_of Try.func21 (by kernel_rfl) rfl
theorem ent22 : Ent Try.prog 22 := ent_of Try.func22 (by kernel_rfl) rfl
theorem ent23 : Ent Try.prog 23 := ent_of Try.func23 (by kernel_rfl) rfl
theorem ent24 : Ent Try.prog 24 := ent_of Try.func24 (by kernel_rfl) rfl
theorem ent25 : Ent Try.prog 25 := ent_of Try.func25 (by kernel_rfl) rfl
theorem ent26 : Ent Try.prog 26 := ent_of Try.func26 (by kernel_rfl) rfl
theorem ent27 : Ent Try.prog 27 := ent_of Try.func27 (by kernel_rfl) rfl
theorem ent28 : Ent Try.prog 28 := ent_of Try.func28 (by kernel_rfl) rfl
theorem ent29 : Ent Try.prog 29 := ent_of Try.func29 (by kernel_rfl) rfl
theorem ent30 : Ent Try.prog 30 := ent_of Try.func30 (by kernel_rfl) rfl
theorem ent31 : Ent Try.prog 31 := ent_of Try.func31 (by kernel_rfl) rfl
theorem ent32 : Ent Try.prog 32 := ent_of Try.func32 (by kernel_rfl) rfl
theorem ent33 : Ent Try.prog 33 := ent_of Try.func33 (by kernel_rfl) rfl
theorem ent34 : Ent Try.prog 34 := ent_of Try.func34 (by kernel_rfl) rfl
theorem ent35 : Ent Try.prog 35 := ent_of Try.func35 (by kernel_rfl) rfl
theorem ent36 : Ent Try.prog 36 := ent_of Try.func36 (by kernel_rfl) rfl
theorem ent37 : Ent Try.prog 37 := ent_of Try.func37 (by kernel_rfl) rfl
theorem ent38 : Ent Try.prog 38 := ent_of Try.func38 (by kernel_rfl) rfl
theorem ent39 : Ent Try.prog 39 := ent_of Try.func39 (by kernel_rfl) rfl
theorem ent40 : Ent Try.prog 40 := ent_of Try.func40 (by kernel_rfl) rfl
theorem ent41 : Ent Try.prog 41 := ent_of Try.func41 (by kernel_rfl) rfl
theorem ent42 : Ent Try.prog 42 := ent_of Try.func42 (by kernel_rfl) rfl
theorem ent43 : Ent Try.prog 43 := ent_of Try.func43 (by kernel_rfl) rfl
theorem ent44 : Ent Try.prog 44 := ent_of Try.func44 (by kernel_rfl) rfl
theorem ent45 : Ent Try.prog 45 := ent_of Try.func45 (by kernel_rfl) rfl
theorem ent46 : Ent Try.prog 46 := ent_of Try.func46 (by kernel_rfl) rfl
theorem ent47 : Ent Try.prog 47 := ent_of Try.func47 (by kernel_rfl) rfl
theorem ent48 : Ent Try.prog 48 := ent_of Try.func48 (by kernel_rfl) rfl
theorem ent49 : Ent Try.prog 49 := ent_of Try.func49 (by kernel_rfl) rfl
theorem ent50 : Ent Try.prog 50 := ent_of Try.func50 (by kernel_rfl) rfl
theorem ent51 : Ent Try.prog 51 := ent_of Try.func51 (by kernel_rfl) rfl
theorem ent52 : Ent Try.prog 52 := ent_of Try.func52 (by kernel_rfl) rfl
theorem ent53 : Ent Try.prog 53 := ent_of Try.func53 (by kernel_rfl) rfl
theorem ent54 : Ent Try.prog 54 := ent_of Try.func54 (by kernel_rfl) rfl
theorem ent55 : Ent Try.prog 55 := ent_of Try.func55 (by kernel_rfl) rfl
theorem ent56 : Ent Try.prog 56 := ent_of Try.func56 (by kernel_rfl) rfl
theorem ent57 : Ent Try.prog 57 := ent_of Try.func57 (by kernel_rfl) rfl
theorem ent58 : Ent Try.prog 58 := ent_of Try.func58 (by kernel_rfl) rfl
theorem ent59 : Ent Try.prog 59 := ent_of Try.func59 (by kernel_rfl) rfl
theorem ent60 : Ent Try.prog 60 := ent_of Try.func60 (by kernel_rfl) rfl
theorem ent61 : Ent Try.prog 61 := ent_of Try.func61 (by kernel_rfl) rfl
theorem ent62 : Ent Try.prog 62 := ent_of Try.func62 (by kernel_rfl) rfl
theorem ent63 : Ent Try.prog 63 := ent_of Try.func63 (by kernel_rfl) rfl
theorem ent64 : Ent Try.prog 64 := ent_of Try.func64 (by kernel_rfl) rfl
theorem ent65 : Ent Try.prog 65 := ent_of Try.func65 (by kernel_rfl) rfl
theorem ent66 : Ent Try.prog 66 := ent_of Try.func66 (by kernel_rfl) rfl
theorem ent67 : Ent Try.prog 67 := ent_of Try.func67 (by kernel_rfl) rfl
theorem ent68 : Ent Try.prog 68 := ent_of Try.func68 (by kernel_rfl) rfl
theorem ent69 : Ent Try.prog 69 := ent_of Try.func69 (by kernel_rfl) rfl
theorem ent70 : Ent Try.prog 70 := ent_of Try.func70 (by kernel_rfl) rfl
theorem ent71 : Ent Try.prog 71 := ent_of Try.func71 (by kernel_rfl) rfl
theorem ent72 : Ent Try.prog 72 := ent_of Try.func72 (by kernel_rfl) rfl
theorem ent73 : Ent Try.prog 73 := ent_of Try.func73 (by kernel_rfl) rfl
theorem ent74 : Ent Try.prog 74 := ent_of Try.func74 (by kernel_rfl) rfl
theorem ent75 : Ent Try.prog 75 := ent_of Try.func75 (by kernel_rfl) rfl
theorem ent76 : Ent Try.prog 76 := ent_of Try.func76 (by kernel_rfl) rfl
theorem ent77 : Ent Try.prog 77 := ent_of Try.func77 (by kernel_rfl) rfl
theorem ent78 : Ent Try.prog 78 := ent_of Try.func78 (by kernel_rfl) rfl
theorem ent79 : Ent Try.prog 79 := ent_of Try.func79 (by kernel_rfl) rfl
theorem ent80 : Ent Try.prog 80 := ent_of Try.func80 (by kernel_rfl) rfl
theorem ent81 : Ent Try.prog 81 := ent_of Try.func81 (by kernel_rfl) rfl
theorem ent82 : Ent Try.prog 82 := ent_of Try.func82 (by kernel_rfl) rfl
theorem ent83 : Ent Try.prog 83 := ent_of Try.func83 (by kernel_rfl) rfl
theorem ent84 : Ent Try.prog 84 := ent_of Try.func84 (by kernel_rfl) rfl
theorem ent85 : Ent Try.prog 85 := ent_of Try.func85 (by kernel_rfl) rfl
theorem ent86 : Ent Try.prog 86 := ent_of Try.func86 (by kernel_rfl) rfl
theorem ent87 : Ent Try.prog 87 := ent_of Try.func87 (by kernel_rfl) rfl
theorem ent88 : Ent Try.prog 88 := ent_of Try.func88 (by kernel_rfl) rfl
theorem ent89 : Ent Try.prog 89 := ent_of Try.func89 (by kernel_rfl) rfl
theorem ent90 : Ent Try.prog 90 := ent_of Try.func90 (by kernel_rfl) rfl
theorem ent91 : Ent Try.prog 91 := ent_of Try.func91 (by kernel_rfl) rfl
theorem ent92 : Ent Try.prog 92 := ent_of Try.func92 (by kernel_rfl) rfl
theorem ent93 : Ent Try.prog 93 := ent_of Try.func93 (by kernel_rfl) rfl
theorem ent94 : Ent Try.prog 94 := ent_of Try.func94 (by kernel_rfl) rfl
theorem ent95 : Ent Try.prog 95 := ent_of Try.func95 (by kernel_rfl) rfl
theorem ent96 : Ent Try.prog 96 := ent_of Try.func96 (by kernel_rfl) rfl
theorem ent97 : Ent Try.prog 97 := ent_of Try.func97 (by kernel_rfl) rfl
theorem ent98 : Ent Try.prog 98 := ent_of Try.func98 (by kernel_rfl) rfl
theorem ent99 : Ent Try.prog 99 := ent_of Try.func99 (by kernel_rfl) rfl
theorem ent100 : Ent Try.prog 100 := ent_of Try.func100 (by kernel_rfl) rfl
theorem ent101 : Ent Try.prog 101 := ent_of Try.func101 (by kernel_rfl) rfl
theorem ent102 : Ent Try.prog 102 := ent_of Try.func102 (by kernel_rfl) rfl
theorem ent103 : Ent Try.prog 103 := ent_of Try.func103 (by kernel_rfl) rfl
theorem ent104 : Ent Try.prog 104 := ent_of Try.func104 (by kernel_rfl) rfl
theorem ent105 : Ent Try.prog 105 := ent_of Try.func105 (by kernel_rfl) rfl
theorem ent106 : Ent Try.prog 106 := ent_of Try.func106 (by kernel_rfl) rfl
theorem ent107 : Ent Try.prog 107 := ent_of Try.func107 (by kernel_rfl) rfl
theorem ent108 : Ent Try.prog 108 := ent_of Try.func108 (by kernel_rfl) rfl
theorem ent109 : Ent Try.prog 109 := ent_of Try.func109 (by kernel_rfl) rfl
theorem ent110 : Ent Try.prog 110 := ent_of Try.func110 (by kernel_rfl) rfl
theorem ent111 : Ent Try.prog 111 := ent_of Try.func111 (by kernel_rfl) rfl
theorem ent112 : Ent Try.prog 112 := ent_of Try.func112 (by kernel_rfl) rfl
theorem ent113 : Ent Try.prog 113 := ent_of Try.func113 (by kernel_rfl) rfl
theorem ent114 : Ent Try.prog 114 := ent_of Try.func114 (by kernel_rfl) rfl
theorem ent115 : Ent Try.prog 115 := ent_of Try.func115 (by kernel_rfl) rfl
theorem ent116 : Ent Try.prog 116 := ent_of Try.func116 (by kernel_rfl) rfl
theorem ent117 : Ent Try.prog 117 := ent_of Try.func117 (by kernel_rfl) rfl
theorem ent118 : Ent Try.prog 118 := ent_of Try.func118 (by kernel_rfl) rfl
theorem ent119 : Ent Try.prog 119 := ent_of Try.func119 (by kernel_rfl) rfl
theorem ent120 : Ent Try.prog 120 := ent_of Try.func120 (by kernel_rfl) rfl
theorem ent121 : Ent Try.prog 121 := ent_of Try.func121 (by kernel_rfl) rfl
theorem ent122 : Ent Try.prog 122 := ent_of Try.func122 (by kernel_rfl) rfl
theorem ent123 : Ent Try.prog 123 := ent_of Try.func123 (by kernel_rfl) rfl
theorem ent124 : Ent Try.prog 124 := ent_of Try.func124 (by kernel_rfl) rfl
theorem ent125 : Ent Try.prog 125 := ent_of Try.func125 (by kernel_rfl) rfl
theorem ent126 : Ent Try.prog 126 := ent_of Try.func126 (by kernel_rfl) rfl
theorem ent127 : Ent Try.prog 127 := ent_of Try.func127 (by kernel_rfl) rfl
theorem ent128 : Ent Try.prog 128 := ent_of Try.func128 (by kernel_rfl) rfl
theorem ent129 : Ent Try.prog 129 := ent_of Try.func129 (by kernel_rfl) rfl
theorem ent130 : Ent Try.prog 130 := ent_of Try.func130 (by kernel_rfl) rfl
theorem ent131 : Ent Try.prog 131 := ent_of Try.func131 (by kernel_rfl) rfl
theorem ent132 : Ent Try.prog 132 := ent_of Try.func132 (by kernel_rfl) rfl
theorem ent133 : Ent Try.prog 133 := ent_of Try.func133 (by kernel_rfl) rfl
theorem ent134 : Ent Try.prog 134 := ent_of Try.func134 (by kernel_rfl) rfl
theorem ent135 : Ent Try.prog 135 := ent_of Try.func135 (by kernel_rfl) rfl
theorem ent136 : Ent Try.prog 136 := ent_of Try.func136 (by kernel_rfl) rfl
theorem ent137 : Ent Try.prog 137 := ent_of Try.func137 (by kernel_rfl) rfl
theorem ent138 : Ent Try.prog 138 := ent_of Try.func138 (by kernel_rfl) rfl
theorem ent139 : Ent Try.prog 139 := ent_of Try.func139 (by kernel_rfl) rfl
theorem ent140 : Ent Try.prog 140 := ent_of Try.func140 (by kernel_rfl) rfl
theorem ent141 : Ent Try.prog 141 := ent_of Try.func141 (by kernel_rfl) rfl
theorem ent142 : Ent Try.prog 142 := ent_of Try.func142 (by kernel_rfl) rfl
theorem ent143 : Ent Try.prog 143 := ent_of Try.func143 (by kernel_rfl) rfl
theorem ent144 : Ent Try.prog 144 := ent_of Try.func144 (by kernel_rfl) rfl
theorem ent145 : Ent Try.prog 145 := ent_of Try.func145 (by kernel_rfl) rfl
theorem ent146 : Ent Try.prog 146 := ent_of Try.func146 (by kernel_rfl) rfl
theorem ent147 : Ent Try.prog 147 := ent_of Try.func147 (by kernel_rfl) rfl
theorem ent148 : Ent Try.prog 148 := ent_of Try.func148 (by kernel_rfl) rfl
theorem ent149 : Ent Try.prog 149 := ent_of Try.func149 (by kernel_rfl) rfl
theorem ent150 : Ent Try.prog 150 := ent_of Try.func150 (by kernel_rfl) rfl
theorem ent151 : Ent Try.prog 151 := ent_of Try.func151 (by kernel_rfl) rfl
theorem ent152 : Ent Try.prog 152 := ent_of Try.func152 (by kernel_rfl) rfl
theorem ent153 : Ent Try.prog 153 := ent_of Try.func153 (by kernel_rfl) rfl
theorem ent154 : Ent Try.prog 154 := ent_of Try.func154 (by kernel_rfl) rfl
theorem ent155 : Ent Try.prog 155 := ent_of Try.func155 (by kernel_rfl) rfl
theorem ent156 : Ent Try.prog 156 := ent_of Try.func156 (by kernel_rfl) rfl
theorem ent157 : Ent Try.prog 157 := ent_of Try.func157 (by kernel_rfl) rfl
theorem ent158 : Ent Try.prog 158 := ent_of Try.func158 (by kernel_rfl) rfl
theorem ent159 : Ent Try.prog 159 := ent_of Try.func159 (by kernel_rfl) rfl
theorem ent160 : Ent Try.prog 160 := ent_of Try.func160 (by kernel_rfl) rfl
theorem ent161 : Ent Try.prog 161 := ent_of Try.func161 (by kernel_rfl) rfl
theorem ent162 : Ent Try.prog 162 := ent_of Try.func162 (by kernel_rfl) rfl
theorem ent163 : Ent Try.prog 163 := ent_of Try.func163 (by kernel_rfl) rfl
theorem ent164 : Ent Try.prog 164 := ent_of Try.func164 (by kernel_rfl) rfl
theorem ent165 : Ent Try.prog 165 := ent_of Try.func165 (by kernel_rfl) rfl
theorem ent166 : Ent Try.prog 166 := ent_of Try.func166 (by kernel_rfl) rfl
theorem ent167 : Ent Try.prog 167 := ent_of Try.func167 (by kernel_rfl) rfl
theorem ent168 : Ent Try.prog 168 := ent_of Try.func168 (by kernel_rfl) rfl
theorem ent169 : Ent Try.prog 169 := ent_of Try.func169 (by kernel_rfl) rfl
theorem ent170 : Ent Try.prog 170 := ent_of Try.func170 (by kernel_rfl) rfl
theorem ent171 : Ent Try.prog 171 := ent_of Try.func171 (by kernel_rfl) rfl
theorem ent172 : Ent Try.prog 172 := ent_of Try.func172 (by kernel_rfl) rfl
theorem ent173 : Ent Try.prog 173 := ent_of Try.func173 (by kernel_rfl) rfl
theorem ent174 : Ent Try.prog 174 := ent_of Try.func174 (by kernel_rfl) rfl
theorem ent175 : Ent Try.prog 175 := ent_of Try.func175 (by kernel_rfl) rfl
theorem ent176 : Ent Try.prog 176 := ent_of Try.func176 (by kernel_rfl) rfl
theorem ent177 : Ent Try.prog 177 := ent_of Try.func177 (by kernel_rfl) rfl
theorem ent178 : Ent Try.prog 178 := ent_of Try.func178 (by kernel_rfl) rfl
theorem ent179 : Ent Try.prog 179 := ent_of Try.func179 (by kernel_rfl) rfl
theorem ent180 : Ent Try.prog 180 := ent_of Try.func180 (by kernel_rfl) rfl
theorem ent181 : Ent Try.prog 181 := ent_of Try.func181 (by kernel_rfl) rfl
theorem ent182 : Ent Try.prog 182 := ent_of Try.func182 (by kernel_rfl) rfl
theorem ent183 : Ent Try.prog 183 := ent_of Try.func183 (by kernel_rfl) rfl
theorem ent184 : Ent Try.prog 184 := ent_of Try.func184 (by kernel_rfl) rfl
theorem ent185 : Ent Try.prog 185 := ent_of Try.func185 (by kernel_rfl) rfl
theorem ent186 : Ent Try.prog 186 := ent_of Try.func186 (by kernel_rfl) rfl
theorem ent187 : Ent Try.prog 187 := ent_of Try.func187 (by kernel_rfl) rfl
theorem ent188 : Ent Try.prog 188 := ent_of Try.func188 (by kernel_rfl) rfl
theorem ent189 : Ent Try.prog 189 := ent_of Try.func189 (by kernel_rfl) rfl
theorem ent190 : Ent Try.prog 190 := ent_of Try.func190 (by kernel_rfl) rfl
theorem ent191 : Ent Try.prog 191 := ent_of Try.func191 (by kernel_rfl) rfl
theorem ent192 : Ent Try.prog 192 := ent_of Try.func192 (by kernel_rfl) rfl
theorem ent193 : Ent Try.prog 193 := ent_of Try.func193 (by kernel_rfl) rfl
theorem ent194 : Ent Try.prog 194 := ent_of Try.func194 (by kernel_rfl) rfl
theorem ent195 : Ent Try.prog 195 := ent_of Try.func195 (by kernel_rfl) rfl
theorem ent196 : Ent Try.prog 196 := ent_of Try.func196 (by kernel_rfl) rfl
theorem ent197 : Ent Try.prog 197 := ent_of Try.func197 (by kernel_rfl) rfl
theorem ent198 : Ent Try.prog 198 := ent_of Try.func198 (by kernel_rfl) rfl
theorem ent199 : Ent Try.prog 199 := ent_of Try.func199 (by kernel_rfl) rfl
theorem ent200 : Ent Try.prog 200 := ent_of Try.func200 (by kernel_rfl) rfl
theorem ent201 : Ent Try.prog 201 := ent_of Try.func201 (by kernel_rfl) rfl
theorem ent202 : Ent Try.prog 202 := ent_of Try.func202 (by kernel_rfl) rfl
theorem ent203 : Ent Try.prog 203 := ent_of Try.func203 (by kernel_rfl) rfl
theorem ent204 : Ent Try.prog 204 := ent_of Try.func204 (by kernel_rfl) rfl
theorem ent205 : Ent Try.prog 205 := ent_of Try.func205 (by kernel_rfl) rfl
theorem ent206 : Ent Try.prog 206 := ent_of Try.func206 (by kernel_rfl) rfl
theorem ent207 : Ent Try.prog 207 := ent_of Try.func207 (by kernel_rfl) rfl
theorem ent208 : Ent Try.prog 208 := ent_of Try.func208 (by kernel_rfl) rfl
theorem ent209 : Ent Try.prog 209 := ent_of Try.func209 (by kernel_rfl) rfl
theorem ent210 : Ent Try.prog 210 := ent_of Try.func210 (by kernel_rfl) rfl
theorem ent211 : Ent Try.prog 211 := ent_of Try.func211 (by kernel_rfl) rfl
theorem ent212 : Ent Try.prog 212 := ent_of Try.func212 (by kernel_rfl) rfl
theorem ent213 : Ent Try.prog 213 := ent_of Try.func213 (by kernel_rfl) rfl
theorem ent214 : Ent Try.prog 214 := ent_of Try.func214 (by kernel_rfl) rfl
theorem ent215 : Ent Try.prog 215 := ent_of Try.func215 (by kernel_rfl) rfl
theorem ent216 : Ent Try.prog 216 := ent_of Try.func216 (by kernel_rfl) rfl
theorem ent217 : Ent Try.prog 217 := ent_of Try.func217 (by kernel_rfl) rfl
theorem ent218 : Ent Try.prog 218 := ent_of Try.func218 (by kernel_rfl) rfl
end Go.Proofs.Ytjefdcbljpkmlaa.G
