/- What the law FnExactGifPut needs, out of the texts Gt. -/
import Derived.Test.YtjefdcbljpkmlaaProg
import Derived.KernelRfl
import Derived.Test.YtjefdcbljpkmlaaKFnExactGifPut07
section
set_option linter.unusedVariables false
namespace Go.Proofs.Ytjefdcbljpkmlaa.G
open Go
def tyL : List (Nat × TyI) := [
  (2, ⟨.int .i64, 1, 8, (.int .i64 0)⟩),
  (3, ⟨.int .i64, 1, 8, (.int .i64 0)⟩),
  (4, ⟨.bool, 1, 1, (.bool false)⟩),
  (5, ⟨.int .u8, 1, 1, (.int .u8 0)⟩),
  (6, ⟨.int .u8, 1, 1, (.int .u8 0)⟩),
  (7, ⟨.struct [(0, 2), (1, 3), (2, 4), (3, 6)], 4, 24, (.agg #[(.int .i64 0), (.int .i64 0), (.bool false), (.int .u8 0)])⟩),
  (8, ⟨.struct [(0, 2), (1, 3), (2, 4), (3, 6)], 4, 24, (.agg #[(.int .i64 0), (.int .i64 0), (.bool false), (.int .u8 0)])⟩),
  (9, ⟨.str, 1, 16, (.string ⟨#[]⟩)⟩),
  (10, ⟨.str, 1, 16, (.string ⟨#[]⟩)⟩),
  (11, ⟨.str, 1, 16, (.string ⟨#[]⟩)⟩),
  (12, ⟨.int .u64, 1, 8, (.int .u64 0)⟩),
  (13, ⟨.struct [(0, 9), (1, 12)], 2, 24, (.agg #[(.string ⟨#[]⟩), (.int .u64 0)])⟩),
  (14, ⟨.struct [(0, 9), (1, 12)], 2, 24, (.agg #[(.string ⟨#[]⟩), (.int .u64 0)])⟩),
  (15, ⟨.ptr, 1, 8, (.pointer none)⟩),
  (16, ⟨.ptr, 1, 8, (.pointer none)⟩),
  (17, ⟨.ptr, 1, 8, (.pointer none)⟩),
  (18, ⟨.struct [(0, 17)], 1, 8, (.agg #[(.pointer none)])⟩),
  (19, ⟨.struct [(0, 17)], 1, 8, (.agg #[(.pointer none)])⟩),
  (21, ⟨.int .i32, 1, 4, (.int .i32 0)⟩),
  (22, ⟨.slice 3, 1, 24, (.slice none 0 0)⟩),
  (23, ⟨.struct [(0, 3), (1, 3), (2, 3), (3, 3), (4, 22), (5, 22)], 6, 80, (.agg #[(.int .i64 0), (.int .i64 0), (.int .i64 0), (.int .i64 0), (.slice none 0 0), (.slice none 0 0)])⟩),
  (24, ⟨.struct [(0, 3), (1, 3), (2, 3), (3, 3), (4, 22), (5, 22)], 6, 80, (.agg #[(.int .i64 0), (.int .i64 0), (.int .i64 0), (.int .i64 0), (.slice none 0 0), (.slice none 0 0)])⟩),
  (27, ⟨.struct [(0, 3), (1, 3), (2, 3), (3, 3), (4, 22), (5, 22)], 6, 80, (.agg #[(.int .i64 0), (.int .i64 0), (.int .i64 0), (.int .i64 0), (.slice none 0 0), (.slice none 0 0)])⟩),
  (35, ⟨.slice 5, 1, 24, (.slice none 0 0)⟩),
  (61, ⟨.slice 22, 1, 24, (.slice none 0 0)⟩),
  (71, ⟨.ptr, 1, 8, (.pointer none)⟩),
  (72, ⟨.struct [(0, 9), (1, 3), (2, 4)], 3, 32, (.agg #[(.string ⟨#[]⟩), (.int .i64 0), (.bool false)])⟩),
  (73, ⟨.struct [(0, 9), (1, 3), (2, 4)], 3, 32, (.agg #[(.string ⟨#[]⟩), (.int .i64 0), (.bool false)])⟩),
  (78, ⟨.ptr, 1, 8, (.pointer none)⟩),
  (82, ⟨.int .u64, 1, 8, (.int .u64 0)⟩),
  (85, ⟨.ptr, 1, 8, (.pointer none)⟩),
  (86, ⟨.struct [(0, 9), (1, 3), (2, 4)], 3, 32, (.agg #[(.string ⟨#[]⟩), (.int .i64 0), (.bool false)])⟩),
  (87, ⟨.struct [(0, 9), (1, 3), (2, 4)], 3, 32, (.agg #[(.string ⟨#[]⟩), (.int .i64 0), (.bool false)])⟩),
  (96, ⟨.func, 1, 8, .nilFunc⟩),
  (102, ⟨.slice 108, 1, 24, (.slice none 0 0)⟩),
  (104, ⟨.ptr, 1, 8, (.pointer none)⟩),
  (105, ⟨.struct [(0, 3), (1, 4), (2, 3), (3, 4)], 4, 32, (.agg #[(.int .i64 0), (.bool false), (.int .i64 0), (.bool false)])⟩),
  (106, ⟨.struct [(0, 3), (1, 4), (2, 3), (3, 4)], 4, 32, (.agg #[(.int .i64 0), (.bool false), (.int .i64 0), (.bool false)])⟩),
  (107, ⟨.struct [(0, 3), (1, 3)], 2, 16, (.agg #[(.int .i64 0), (.int .i64 0)])⟩),
  (108, ⟨.struct [(0, 3), (1, 3)], 2, 16, (.agg #[(.int .i64 0), (.int .i64 0)])⟩),
  (109, ⟨.map 9 3, 1, 8, (.map none)⟩),
  (113, ⟨.ptr, 1, 8, (.pointer none)⟩),
  (116, ⟨.slice 9, 1, 24, (.slice none 0 0)⟩),
  (117, ⟨.struct [(0, 106), (4, 116), (5, 9), (6, 9), (7, 22)], 8, 112, (.agg #[(.int .i64 0), (.bool false), (.int .i64 0), (.bool false), (.slice none 0 0), (.string ⟨#[]⟩), (.string ⟨#[]⟩), (.slice none 0 0)])⟩),
  (118, ⟨.struct [(0, 106), (4, 116), (5, 9), (6, 9), (7, 22)], 8, 112, (.agg #[(.int .i64 0), (.bool false), (.int .i64 0), (.bool false), (.slice none 0 0), (.string ⟨#[]⟩), (.string ⟨#[]⟩), (.slice none 0 0)])⟩),
  (121, ⟨.ptr, 1, 8, (.pointer none)⟩),
  (123, ⟨.struct [(0, 9), (1, 3), (2, 4), (3, 3), (4, 3), (5, 116), (6, 9), (7, 35), (8, 22), (9, 3)], 10, 144, (.agg #[(.string ⟨#[]⟩), (.int .i64 0), (.bool false), (.int .i64 0), (.int .i64 0), (.slice none 0 0), (.string ⟨#[]⟩), (.slice none 0 0), (.slice none 0 0), (.int .i64 0)])⟩),
  (124, ⟨.struct [(0, 9), (1, 3), (2, 4), (3, 3), (4, 3), (5, 116), (6, 9), (7, 35), (8, 22), (9, 3)], 10, 144, (.agg #[(.string ⟨#[]⟩), (.int .i64 0), (.bool false), (.int .i64 0), (.int .i64 0), (.slice none 0 0), (.string ⟨#[]⟩), (.slice none 0 0), (.slice none 0 0), (.int .i64 0)])⟩),
  (148, ⟨.ptr, 1, 8, (.pointer none)⟩),
  (150, ⟨.func, 1, 8, .nilFunc⟩),
  (152, ⟨.struct [(0, 35), (1, 3)], 2, 32, (.agg #[(.slice none 0 0), (.int .i64 0)])⟩),
  (153, ⟨.struct [(0, 35), (1, 3)], 2, 32, (.agg #[(.slice none 0 0), (.int .i64 0)])⟩),
  (162, ⟨.ptr, 1, 8, (.pointer none)⟩),
  (163, ⟨.struct [(0, 35), (1, 3), (2, 4)], 3, 40, (.agg #[(.slice none 0 0), (.int .i64 0), (.bool false)])⟩),
  (164, ⟨.struct [(0, 35), (1, 3), (2, 4)], 3, 40, (.agg #[(.slice none 0 0), (.int .i64 0), (.bool false)])⟩),
  (170, ⟨.ptr, 1, 8, (.pointer none)⟩),
  (171, ⟨.struct [(0, 170), (1, 35)], 2, 32, (.agg #[(.pointer none), (.slice none 0 0)])⟩),
  (172, ⟨.struct [(0, 170), (1, 35)], 2, 32, (.agg #[(.pointer none), (.slice none 0 0)])⟩),
  (180, ⟨.ptr, 1, 8, (.pointer none)⟩),
  (181, ⟨.struct [(0, 9), (1, 3), (2, 61), (3, 3), (4, 3), (5, 4)], 6, 72, (.agg #[(.string ⟨#[]⟩), (.int .i64 0), (.slice none 0 0), (.int .i64 0), (.int .i64 0), (.bool false)])⟩),
  (182, ⟨.struct [(0, 9), (1, 3), (2, 61), (3, 3), (4, 3), (5, 4)], 6, 72, (.agg #[(.string ⟨#[]⟩), (.int .i64 0), (.slice none 0 0), (.int .i64 0), (.int .i64 0), (.bool false)])⟩),
  (186, ⟨.ptr, 1, 8, (.pointer none)⟩),
  (187, ⟨.struct [(0, 61), (1, 3), (2, 3)], 3, 40, (.agg #[(.slice none 0 0), (.int .i64 0), (.int .i64 0)])⟩),
  (188, ⟨.struct [(0, 61), (1, 3), (2, 3)], 3, 40, (.agg #[(.slice none 0 0), (.int .i64 0), (.int .i64 0)])⟩),
  (193, ⟨.arr 2 3, 2, 16, (.agg #[(.int .i64 0), (.int .i64 0)])⟩),
  (194, ⟨.slice 193, 1, 24, (.slice none 0 0)⟩),
  (195, ⟨.ptr, 1, 8, (.pointer none)⟩),
  (198, ⟨.int .u32, 1, 4, (.int .u32 0)⟩),
  (201, ⟨.int .u64, 1, 8, (.int .u64 0)⟩),
  (207, ⟨.struct [(0, 17), (1, 17), (2, 17), (3, 9)], 4, 40, (.agg #[(.pointer none), (.pointer none), (.pointer none), (.string ⟨#[]⟩)])⟩),
  (208, ⟨.struct [(0, 17), (1, 17), (2, 17), (3, 9)], 4, 40, (.agg #[(.pointer none), (.pointer none), (.pointer none), (.string ⟨#[]⟩)])⟩),
  (209, ⟨.arr 0 16, 0, 0, (.agg #[])⟩),
  (210, ⟨.struct [(0, 209)], 0, 0, (.agg #[])⟩),
  (211, ⟨.struct [(0, 209)], 0, 0, (.agg #[])⟩),
  (212, ⟨.int .u8, 1, 1, (.int .u8 0)⟩),
  (213, ⟨.int .u8, 1, 1, (.int .u8 0)⟩),
  (215, ⟨.int .i32, 1, 4, (.int .i32 0)⟩),
  (216, ⟨.int .i32, 1, 4, (.int .i32 0)⟩),
  (217, ⟨.struct [(0, 12), (1, 12), (2, 198), (3, 212), (4, 5), (5, 5), (6, 213), (7, 214), (8, 195), (9, 215), (10, 216)], 11, 48, (.agg #[(.int .u64 0), (.int .u64 0), (.int .u32 0), (.int .u8 0), (.int .u8 0), (.int .u8 0), (.int .u8 0), .nilFunc, (.pointer none), (.int .i32 0), (.int .i32 0)])⟩),
  (218, ⟨.struct [(0, 12), (1, 12), (2, 198), (3, 212), (4, 5), (5, 5), (6, 213), (7, 214), (8, 195), (9, 215), (10, 216)], 11, 48, (.agg #[(.int .u64 0), (.int .u64 0), (.int .u32 0), (.int .u8 0), (.int .u8 0), (.int .u8 0), (.int .u8 0), .nilFunc, (.pointer none), (.int .i32 0), (.int .i32 0)])⟩)]
def tyT : Tys := lkT tyL
theorem tyT_all : ∀ p ∈ tyL, TyOk Try.prog p.1 p.2 := by
  intro p hp
  simp only [tyL, List.mem_cons, List.not_mem_nil, or_false] at hp
  rcases hp with rfl | rfl | rfl | rfl | rfl | rfl | rfl | rfl | rfl | rfl | rfl | rfl | rfl | rfl | rfl | rfl | rfl | rfl | rfl | rfl | rfl | rfl | rfl | rfl | rfl | rfl | rfl | rfl | rfl | rfl | rfl | rfl | rfl | rfl | rfl | rfl | rfl | rfl | rfl | rfl | rfl | rfl | rfl | rfl | rfl | rfl | rfl | rfl | rfl | rfl | rfl | rfl | rfl | rfl | rfl | rfl | rfl | rfl | rfl | rfl | rfl | rfl | rfl | rfl | rfl | rfl | rfl | rfl | rfl | rfl | rfl | rfl | rfl | rfl | rfl | rfl | rfl | rfl | rfl | rfl
  · exact tyOk_of (by kernel_rfl) ⟨_, Try.underlying2, rfl⟩
  · exact tyOk_of (by kernel_rfl) ⟨_, Try.underlying3, rfl⟩
  · exact tyOk_of (by kernel_rfl) ⟨_, Try.underlying4, rfl⟩
  · exact tyOk_of (by kernel_rfl) ⟨_, Try.underlying5, rfl⟩
  · exact tyOk_of (by kernel_rfl) ⟨_, Try.underlying6, rfl⟩
  · exact tyOk_of (by kernel_rfl) ⟨_, Try.underlying7, ⟨_, rfl, by kernel_rfl⟩⟩
  · exact tyOk_of (by kernel_rfl) ⟨_, Try.underlying8, ⟨_, rfl, by kernel_rfl⟩⟩
  · exact tyOk_of (by kernel_rfl) ⟨_, Try.underlying9, rfl⟩
  · exact tyOk_of (by kernel_rfl) ⟨_, Try.underlying10, rfl⟩
  · exact tyOk_of (by kernel_rfl) ⟨_, Try.underlying11, rfl⟩
  · exact tyOk_of (by kernel_rfl) ⟨_, Try.underlying12, rfl⟩
  · exact tyOk_of (by kernel_rfl) ⟨_, Try.underlying13, ⟨_, rfl, by kernel_rfl⟩⟩
  · exact tyOk_of (by kernel_rfl) ⟨_, Try.underlying14, ⟨_, rfl, by kernel_rfl⟩⟩
  · exact tyOk_of (by kernel_rfl) ⟨_, Try.underlying15, ⟨_, rfl⟩⟩
  · exact tyOk_of (by kernel_rfl) ⟨_, Try.underlying16, ⟨_, rfl⟩⟩
  · exact tyOk_of (by kernel_rfl) ⟨_, Try.underlying17, ⟨_, rfl⟩⟩
  · exact tyOk_of (by kernel_rfl) ⟨_, Try.underlying18, ⟨_, rfl, by kernel_rfl⟩⟩
  · exact tyOk_of (by kernel_rfl) ⟨_, Try.underlying19, ⟨_, rfl, by kernel_rfl⟩⟩
  · exact tyOk_of (by kernel_rfl) ⟨_, Try.underlying21, rfl⟩
  · exact tyOk_of (by kernel_rfl) ⟨_, Try.underlying22, rfl⟩
  · exact tyOk_of (by kernel_rfl) ⟨_, Try.underlying23, ⟨_, rfl, by kernel_rfl⟩⟩
  · exact tyOk_of (by kernel_rfl) ⟨_, Try.underlying24, ⟨_, rfl, by kernel_rfl⟩⟩
  · exact tyOk_of (by kernel_rfl) ⟨_, Try.underlying27, ⟨_, rfl, by kernel_rfl⟩⟩
  · exact tyOk_of (by kernel_rfl) ⟨_, Try.underlying35, rfl⟩
  · exact tyOk_of (by kernel_rfl) ⟨_, Try.underlying61, rfl⟩
  · exact tyOk_of (by kernel_rfl) ⟨_, Try.underlying71, ⟨_, rfl⟩⟩
  · exact tyOk_of (by kernel_rfl) ⟨_, Try.underlying72, ⟨_, rfl, by kernel_rfl⟩⟩
  · exact tyOk_of (by kernel_rfl) ⟨_, Try.underlying73, ⟨_, rfl, by kernel_rfl⟩⟩
  · exact tyOk_of (by kernel_rfl) ⟨_, Try.underlying78, ⟨_, rfl⟩⟩
  · exact tyOk_of (by kernel_rfl) ⟨_, Try.underlying82, rfl⟩
  · exact tyOk_of (by kernel_rfl) ⟨_, Try.underlying85, ⟨_, rfl⟩⟩
  · exact tyOk_of (by kernel_rfl) ⟨_, Try.underlying86, ⟨_, rfl, by kernel_rfl⟩⟩
  · exact tyOk_of (by kernel_rfl) ⟨_, Try.underlying87, ⟨_, rfl, by kernel_rfl⟩⟩
  · exact tyOk_of (by kernel_rfl) ⟨_, Try.underlying96, ⟨_, _, _, rfl⟩⟩
  · exact tyOk_of (by kernel_rfl) ⟨_, Try.underlying102, rfl⟩
  · exact tyOk_of (by kernel_rfl) ⟨_, Try.underlying104, ⟨_, rfl⟩⟩
  · exact tyOk_of (by kernel_rfl) ⟨_, Try.underlying105, ⟨_, rfl, by kernel_rfl⟩⟩
  · exact tyOk_of (by kernel_rfl) ⟨_, Try.underlying106, ⟨_, rfl, by kernel_rfl⟩⟩
  · exact tyOk_of (by kernel_rfl) ⟨_, Try.underlying107, ⟨_, rfl, by kernel_rfl⟩⟩
  · exact tyOk_of (by kernel_rfl) ⟨_, Try.underlying108, ⟨_, rfl, by kernel_rfl⟩⟩
  · exact tyOk_of (by kernel_rfl) ⟨_, Try.underlying109, rfl⟩
  · exact tyOk_of (by kernel_rfl) ⟨_, Try.underlying113, ⟨_, rfl⟩⟩
  · exact tyOk_of (by kernel_rfl) ⟨_, Try.underlying116, rfl⟩
  · exact tyOk_of (by kernel_rfl) ⟨_, Try.underlying117, ⟨_, rfl, by kernel_rfl⟩⟩
  · exact tyOk_of (by kernel_rfl) ⟨_, Try.underlying118, ⟨_, rfl, by kernel_rfl⟩⟩
  · exact tyOk_of (by kernel_rfl) ⟨_, Try.underlying121, ⟨_, rfl⟩⟩
  · exact tyOk_of (by kernel_rfl) ⟨_, Try.underlying123, ⟨_, rfl, by kernel_rfl⟩⟩
  · exact tyOk_of (by kernel_rfl) ⟨_, Try.underlying124, ⟨_, rfl, by kernel_rfl⟩⟩
  · exact tyOk_of (by kernel_rfl) ⟨_, Try.underlying148, ⟨_, rfl⟩⟩
  · exact tyOk_of (by kernel_rfl) ⟨_, Try.underlying150, ⟨_, _, _, rfl⟩⟩
  · exact tyOk_of (by kernel_rfl) ⟨_, Try.underlying152, ⟨_, rfl, by kernel_rfl⟩⟩
  · exact tyOk_of (by kernel_rfl) ⟨_, Try.underlying153, ⟨_, rfl, by kernel_rfl⟩⟩
  · exact tyOk_of (by kernel_rfl) ⟨_, Try.underlying162, ⟨_, rfl⟩⟩
  · exact tyOk_of (by kernel_rfl) ⟨_, Try.underlying163, ⟨_, rfl, by kernel_rfl⟩⟩
  · exact tyOk_of (by kernel_rfl) ⟨_, Try.underlying164, ⟨_, rfl, by kernel_rfl⟩⟩
  · exact tyOk_of (by kernel_rfl) ⟨_, Try.underlying170, ⟨_, rfl⟩⟩
  · exact tyOk_of (by kernel_rfl) ⟨_, Try.underlying171, ⟨_, rfl, by kernel_rfl⟩⟩
  · exact tyOk_of (by kernel_rfl) ⟨_, Try.underlying172, ⟨_, rfl, by kernel_rfl⟩⟩
  · exact tyOk_of (by kernel_rfl) ⟨_, Try.underlying180, ⟨_, rfl⟩⟩
  · exact tyOk_of (by kernel_rfl) ⟨_, Try.underlying181, ⟨_, rfl, by kernel_rfl⟩⟩
  · exact tyOk_of (by kernel_rfl) ⟨_, Try.underlying182, ⟨_, rfl, by kernel_rfl⟩⟩
  · exact tyOk_of (by kernel_rfl) ⟨_, Try.underlying186, ⟨_, rfl⟩⟩
  · exact tyOk_of (by kernel_rfl) ⟨_, Try.underlying187, ⟨_, rfl, by kernel_rfl⟩⟩
  · exact tyOk_of (by kernel_rfl) ⟨_, Try.underlying188, ⟨_, rfl, by kernel_rfl⟩⟩
  · exact tyOk_of (by kernel_rfl) ⟨_, Try.underlying193, rfl⟩
  · exact tyOk_of (by kernel_rfl) ⟨_, Try.underlying194, rfl⟩
  · exact tyOk_of (by kernel_rfl) ⟨_, Try.underlying195, ⟨_, rfl⟩⟩
  · exact tyOk_of (by kernel_rfl) ⟨_, Try.underlying198, rfl⟩
  · exact tyOk_of (by kernel_rfl) ⟨_, Try.underlying201, rfl⟩
  · exact tyOk_of (by kernel_rfl) ⟨_, Try.underlying207, ⟨_, rfl, by kernel_rfl⟩⟩
  · exact tyOk_of (by kernel_rfl) ⟨_, Try.underlying208, ⟨_, rfl, by kernel_rfl⟩⟩
  · exact tyOk_of (by kernel_rfl) ⟨_, Try.underlying209, rfl⟩
  · exact tyOk_of (by kernel_rfl) ⟨_, Try.underlying210, ⟨_, rfl, by kernel_rfl⟩⟩
  · exact tyOk_of (by kernel_rfl) ⟨_, Try.underlying211, ⟨_, rfl, by kernel_rfl⟩⟩
  · exact tyOk_of (by kernel_rfl) ⟨_, Try.underlying212, rfl⟩
  · exact tyOk_of (by kernel_rfl) ⟨_, Try.underlying213, rfl⟩
  · exact tyOk_of (by kernel_rfl) ⟨_, Try.underlying215, rfl⟩
  · exact tyOk_of (by kernel_rfl) ⟨_, Try.underlying216, rfl⟩
  · exact tyOk_of (by kernel_rfl) ⟨_, Try.underlying217, ⟨_, rfl, by kernel_rfl⟩⟩
  · exact tyOk_of (by kernel_rfl) ⟨_, Try.underlying218, ⟨_, rfl, by kernel_rfl⟩⟩
theorem tyT_ok : TysOk Try.prog tyT := fun t i h => tyT_all (t, i) (lkT_mem h)
theorem ent14 : Ent Try.prog 14 := ent_of Try.func14 (by kernel_rfl) rfl
theorem ent16 : Ent Try.prog 16 := ent_of Try.func16 (by kernel_rfl) rfl
theorem ent18 : Ent Try.prog 18 := ent_of Try.func18 (by kernel_rfl) rfl
theorem ent33 : Ent Try.prog 33 := ent_of Try.func33 (by kernel_rfl) rfl
theorem ent42 : Ent Try.prog 42 := ent_of Try.func42 (by kernel_rfl) rfl
theorem ent43 : Ent Try.prog 43 := ent_of Try.func43 (by kernel_rfl) rfl
theorem ent47 : Ent Try.prog 47 := ent_of Try.func47 (by kernel_rfl) rfl
theorem ent48 : Ent Try.prog 48 := ent_of Try.func48 (by kernel_rfl) rfl
theorem ent51 : Ent Try.prog 51 := ent_of Try.func51 (by kernel_rfl) rfl
theorem ent54 : Ent Try.prog 54 := ent_of Try.func54 (by kernel_rfl) rfl
theorem ent60 : Ent Try.prog 60 := ent_of Try.func60 (by kernel_rfl) rfl
theorem ent61 : Ent Try.prog 61 := ent_of Try.func61 (by kernel_rfl) rfl
theorem ent64 : Ent Try.prog 64 := ent_of Try.func64 (by kernel_rfl) rfl
theorem ent65 : Ent Try.prog 65 := ent_of Try.func65 (by kernel_rfl) rfl
theorem ent72 : Ent Try.prog 72 := ent_of Try.func72 (by kernel_rfl) rfl
theorem ent74 : Ent Try.prog 74 := ent_of Try.func74 (by kernel_rfl) rfl
theorem ent82 : Ent Try.prog 82 := ent_of Try.func82 (by kernel_rfl) rfl
theorem ent88 : Ent Try.prog 88 := ent_of Try.func88 (by kernel_rfl) rfl
theorem ent106 : Ent Try.prog 106 := ent_of Try.func106 (by kernel_rfl) rfl
theorem ent107 : Ent Try.prog 107 := ent_of Try.func107 (by kernel_rfl) rfl
theorem ent108 : Ent Try.prog 108 := ent_of Try.func108 (by kernel_rfl) rfl
theorem ent109 : Ent Try.prog 109 := ent_of Try.func109 (by kernel_rfl) rfl
theorem ent110 : Ent Try.prog 110 := ent_of Try.func110 (by kernel_rfl) rfl
theorem ent111 : Ent Try.prog 111 := ent_of Try.func111 (by kernel_rfl) rfl
theorem ent112 : Ent Try.prog 112 := ent_of Try.func112 (by kernel_rfl) rfl
theorem ent113 : Ent Try.prog 113 := ent_of Try.func113 (by kernel_rfl) rfl
theorem ent115 : Ent Try.prog 115 := ent_of Try.func115 (by kernel_rfl) rfl
theorem ent119 : Ent Try.prog 119 := ent_of Try.func119 (by kernel_rfl) rfl
theorem ent120 : Ent Try.prog 120 := ent_of Try.func120 (by kernel_rfl) rfl
theorem ent121 : Ent Try.prog 121 := ent_of Try.func121 (by kernel_rfl) rfl
theorem ent122 : Ent Try.prog 122 := ent_of Try.func122 (by kernel_rfl) rfl
theorem ent123 : Ent Try.prog 123 := ent_of Try.func123 (by kernel_rfl) rfl
theorem ent134 : Ent Try.prog 134 := ent_of Try.func134 (by kernel_rfl) rfl
theorem ent135 : Ent Try.prog 135 := ent_of Try.func135 (by kernel_rfl) rfl
theorem ent136 : Ent Try.prog 136 := ent_of Try.func136 (by kernel_rfl) rfl
theorem ent143 : Ent Try.prog 143 := ent_of Try.func143 (by kernel_rfl) rfl
theorem ent144 : Ent Try.prog 144 := ent_of Try.func144 (by kernel_rfl) rfl
theorem ent149 : Ent Try.prog 149 := ent_of Try.func149 (by kernel_rfl) rfl
theorem ent165 : Ent Try.prog 165 := ent_of Try.func165 (by kernel_rfl) rfl
theorem ent166 : Ent Try.prog 166 := ent_of Try.func166 (by kernel_rfl) rfl
theorem ent167 : Ent Try.prog 167 := ent_of Try.func167 (by kernel_rfl) rfl
theorem ent168 : Ent Try.prog 168 := ent_of Try.func168 (by kernel_rfl) rfl
theorem ent169 : Ent Try.prog 169 := ent_of Try.func169 (by kernel_rfl) rfl
theorem ent178 : Ent Try.prog 178 := ent_of Try.func178 (by kernel_rfl) rfl
theorem ent179 : Ent Try.prog 179 := ent_of Try.func179 (by kernel_rfl) rfl
theorem ent180 : Ent Try.prog 180 := ent_of Try.func180 (by kernel_rfl) rfl
theorem ent181 : Ent Try.prog 181 := ent_of Try.func181 (by kernel_rfl) rfl
theorem ent182 : Ent Try.prog 182 := ent_of Try.func182 (by kernel_rfl) rfl
theorem ent183 : Ent Try.prog 183 := ent_of Try.func183 (by kernel_rfl) rfl
theorem ent184 : Ent Try.prog 184 := ent_of Try.func184 (by kernel_rfl) rfl
theorem ent185 : Ent Try.prog 185 := ent_of Try.func185 (by kernel_rfl) rfl
theorem ent190 : Ent Try.prog 190 := ent_of Try.func190 (by kernel_rfl) rfl
theorem ent191 : Ent Try.prog 191 := ent_of Try.func191 (by kernel_rfl) rfl
theorem ent207 : Ent Try.prog 207 := ent_of Try.func207 (by kernel_rfl) rfl
theorem ent208 : Ent Try.prog 208 := ent_of Try.func208 (by kernel_rfl) rfl
theorem ent209 : Ent Try.prog 209 := ent_of Try.func209 (by kernel_rfl) rfl
theorem ent210 : Ent Try.prog 210 := ent_of Try.func210 (by kernel_rfl) rfl
theorem ent212 : Ent Try.prog 212 := ent_of Try.func212 (by kernel_rfl) rfl
theorem ent213 : Ent Try.prog 213 := ent_of Try.func213 (by kernel_rfl) rfl
end Go.Proofs.Ytjefdcbljpkmlaa.G
end
