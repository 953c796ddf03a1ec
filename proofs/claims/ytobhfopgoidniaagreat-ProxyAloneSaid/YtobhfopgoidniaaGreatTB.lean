/- The table of the types that the functions use. -/
import Derived.Test.YtobhfopgoidniaaGreatEB
import Derived.Test.YtobhfopgoidniaaGreatProg
import Derived.KernelRfl
set_option linter.all false
set_option linter.unusedVariables false
set_option linter.unusedSimpArgs false

namespace Go.Proofs.YtobhfopgoidniaaGreat
open Go Go.Eng

def tabL : List (Nat × TD) := [(2, ⟨false, 1, [.int .i64 0], [], 0, 0⟩),
  (3, ⟨false, 1, [.int .i64 0], [], 0, 0⟩),
  (4, ⟨false, 1, [.bool false], [], 0, 0⟩),
  (5, ⟨false, 1, [.int .u8 0], [], 0, 0⟩),
  (6, ⟨false, 1, [.int .u8 0], [], 0, 0⟩),
  (8, ⟨true, 4, [.int .i64 0, .int .i64 0, .bool false, .int .u8 0], [(0, 2), (1, 3), (2, 4), (3, 6)], 0, 0⟩),
  (9, ⟨false, 1, [.string ⟨#[]⟩], [], 0, 2⟩),
  (10, ⟨false, 1, [.string ⟨#[]⟩], [], 0, 2⟩),
  (11, ⟨false, 1, [.string ⟨#[]⟩], [], 0, 2⟩),
  (12, ⟨false, 1, [.int .u64 0], [], 0, 0⟩),
  (14, ⟨true, 2, [.string ⟨#[]⟩, .int .u64 0], [(0, 9), (1, 12)], 0, 0⟩),
  (15, ⟨false, 1, [.pointer none], [], 359, 0⟩),
  (16, ⟨false, 1, [.pointer none], [], 362, 0⟩),
  (17, ⟨false, 1, [.pointer none], [], 372, 0⟩),
  (19, ⟨true, 1, [.pointer none], [(0, 17)], 0, 0⟩),
  (22, ⟨false, 1, [.int .i64 0], [], 0, 0⟩),
  (23, ⟨false, 1, [.slice none 0 0], [], 25, 1⟩),
  (25, ⟨true, 4, [.int .i64 0, .string ⟨#[]⟩, .int .i64 0, .slice none 0 0], [(0, 22), (1, 9), (2, 3), (3, 23)], 0, 0⟩),
  (31, ⟨false, 1, [.slice none 0 0], [], 40, 1⟩),
  (33, ⟨false, 1, [.pointer none], [], 188, 0⟩),
  (34, ⟨false, 1, [.pointer none], [], 183, 0⟩),
  (37, ⟨false, 1, [.slice none 0 0], [], 9, 1⟩),
  (38, ⟨false, 1, [.slice none 0 0], [], 3, 1⟩),
  (40, ⟨true, 8, [.string ⟨#[]⟩, .int .i64 0, .bool false, .bool false, .slice none 0 0, .slice none 0 0, .slice none 0 0, .int .i64 0], [(0, 9), (1, 3), (2, 4), (3, 4), (4, 37), (5, 37), (6, 38), (7, 3)], 0, 0⟩),
  (41, ⟨false, 1, [.int .i64 0], [], 0, 0⟩),
  (44, ⟨false, 1, [.nilFunc], [], 0, 0⟩),
  (45, ⟨false, 1, [.pointer none], [], 195, 0⟩),
  (57, ⟨false, 1, [.slice none 0 0], [], 60, 1⟩),
  (60, ⟨true, 7, [.int .i64 0, .int .i64 0, .int .i64 0, .string ⟨#[]⟩, .int .i64 0, .slice none 0 0, .string ⟨#[]⟩], [(0, 3), (1, 3), (2, 25), (6, 9)], 0, 0⟩),
  (62, ⟨false, 1, [.slice none 0 0], [], 79, 1⟩),
  (68, ⟨true, 2, [.int .i64 0, .int .i64 0], [(0, 3), (1, 3)], 0, 0⟩),
  (70, ⟨true, 13, [.string ⟨#[]⟩, .int .i64 0, .int .i64 0, .string ⟨#[]⟩, .int .i64 0, .slice none 0 0, .string ⟨#[]⟩, .int .i64 0, .int .i64 0, .int .i64 0, .string ⟨#[]⟩, .int .i64 0, .slice none 0 0], [(0, 9), (1, 3), (2, 25), (6, 9), (7, 68), (9, 25)], 0, 0⟩),
  (74, ⟨true, 7, [.string ⟨#[]⟩, .slice none 0 0, .int .i64 0, .slice none 0 0, .string ⟨#[]⟩, .bool false, .int .i64 0], [(0, 9), (1, 38), (2, 3), (3, 37), (4, 9), (5, 4), (6, 3)], 0, 0⟩),
  (77, ⟨false, 1, [.int .i64 0], [], 0, 0⟩),
  (79, ⟨true, 10, [.int .i64 0, .int .i64 0, .string ⟨#[]⟩, .string ⟨#[]⟩, .string ⟨#[]⟩, .slice none 0 0, .int .i64 0, .int .i64 0, .bool false, .int .i64 0], [(0, 77), (1, 3), (2, 9), (3, 9), (4, 9), (5, 37), (6, 3), (7, 3), (8, 4), (9, 41)], 0, 0⟩),
  (82, ⟨true, 29, [.string ⟨#[]⟩, .string ⟨#[]⟩, .int .i64 0, .int .i64 0, .string ⟨#[]⟩, .int .i64 0, .slice none 0 0, .string ⟨#[]⟩, .int .i64 0, .int .i64 0, .string ⟨#[]⟩, .int .i64 0, .slice none 0 0, .string ⟨#[]⟩, .int .i64 0, .int .i64 0, .int .i64 0, .string ⟨#[]⟩, .int .i64 0, .slice none 0 0, .string ⟨#[]⟩, .slice none 0 0, .int .i64 0, .slice none 0 0, .string ⟨#[]⟩, .bool false, .int .i64 0, .int .i64 0, .int .i64 0], [(0, 9), (1, 9), (2, 3), (3, 25), (7, 70), (20, 74), (27, 68)], 0, 0⟩),
  (90, ⟨true, 9, [.string ⟨#[]⟩, .string ⟨#[]⟩, .string ⟨#[]⟩, .int .i64 0, .int .i64 0, .slice none 0 0, .bool false, .int .i64 0, .int .i64 0], [(0, 9), (1, 9), (2, 9), (3, 3), (4, 3), (5, 37), (6, 4), (7, 68)], 0, 0⟩),
  (91, ⟨false, 1, [.pointer none], [], 100, 0⟩),
  (93, ⟨true, 29, [.string ⟨#[]⟩, .string ⟨#[]⟩, .int .i64 0, .int .i64 0, .string ⟨#[]⟩, .int .i64 0, .slice none 0 0, .string ⟨#[]⟩, .int .i64 0, .int .i64 0, .string ⟨#[]⟩, .int .i64 0, .slice none 0 0, .string ⟨#[]⟩, .int .i64 0, .int .i64 0, .int .i64 0, .string ⟨#[]⟩, .int .i64 0, .slice none 0 0, .string ⟨#[]⟩, .slice none 0 0, .int .i64 0, .slice none 0 0, .string ⟨#[]⟩, .bool false, .int .i64 0, .int .i64 0, .int .i64 0], [(0, 9), (1, 9), (2, 3), (3, 25), (7, 70), (20, 74), (27, 68)], 0, 0⟩),
  (94, ⟨true, 9, [.string ⟨#[]⟩, .string ⟨#[]⟩, .string ⟨#[]⟩, .int .i64 0, .int .i64 0, .slice none 0 0, .bool false, .int .i64 0, .int .i64 0], [(0, 9), (1, 9), (2, 9), (3, 3), (4, 3), (5, 37), (6, 4), (7, 68)], 0, 0⟩),
  (98, ⟨false, 1, [.pointer none], [], 304, 0⟩),
  (100, ⟨true, 4, [.pointer none, .pointer none, .int .i64 0, .slice none 0 0], [(0, 34), (1, 98), (2, 3), (3, 62)], 0, 0⟩),
  (113, ⟨false, 1, [.pointer none], [], 255, 0⟩),
  (119, ⟨false, 1, [.slice none 0 0], [], 125, 1⟩),
  (123, ⟨true, 13, [.string ⟨#[]⟩, .string ⟨#[]⟩, .int .i64 0, .string ⟨#[]⟩, .int .i64 0, .slice none 0 0, .int .i64 0, .string ⟨#[]⟩, .int .i64 0, .slice none 0 0, .int .i64 0, .int .i64 0, .int .i64 0], [(0, 9), (1, 9), (2, 25), (6, 25), (10, 3), (11, 68)], 0, 0⟩),
  (125, ⟨true, 13, [.string ⟨#[]⟩, .string ⟨#[]⟩, .int .i64 0, .string ⟨#[]⟩, .int .i64 0, .slice none 0 0, .int .i64 0, .string ⟨#[]⟩, .int .i64 0, .slice none 0 0, .int .i64 0, .int .i64 0, .int .i64 0], [(0, 9), (1, 9), (2, 25), (6, 25), (10, 3), (11, 68)], 0, 0⟩),
  (127, ⟨false, 1, [.nilFunc], [], 0, 0⟩),
  (129, ⟨false, 1, [.slice none 0 0], [], 134, 1⟩),
  (131, ⟨false, 1, [.pointer none], [], 139, 0⟩),
  (134, ⟨true, 22, [.int .i64 0, .string ⟨#[]⟩, .string ⟨#[]⟩, .int .i64 0, .string ⟨#[]⟩, .int .i64 0, .slice none 0 0, .int .i64 0, .string ⟨#[]⟩, .int .i64 0, .slice none 0 0, .int .i64 0, .int .i64 0, .int .i64 0, .int .i64 0, .string ⟨#[]⟩, .int .i64 0, .slice none 0 0, .string ⟨#[]⟩, .string ⟨#[]⟩, .int .i64 0, .int .i64 0], [(0, 3), (1, 125), (14, 25), (18, 9), (19, 9), (20, 3), (21, 3)], 0, 0⟩),
  (137, ⟨false, 1, [.slice none 0 0], [], 123, 1⟩),
  (139, ⟨true, 7, [.string ⟨#[]⟩, .int .i64 0, .string ⟨#[]⟩, .int .i64 0, .slice none 0 0, .int .i64 0, .slice none 0 0], [(0, 9), (1, 25), (5, 3), (6, 137)], 0, 0⟩),
  (153, ⟨false, 1, [.pointer none], [], 275, 0⟩),
  (159, ⟨true, 24, [.string ⟨#[]⟩, .slice none 0 0, .int .i64 0, .slice none 0 0, .string ⟨#[]⟩, .bool false, .int .i64 0, .string ⟨#[]⟩, .int .i64 0, .int .i64 0, .string ⟨#[]⟩, .int .i64 0, .slice none 0 0, .string ⟨#[]⟩, .int .i64 0, .int .i64 0, .int .i64 0, .string ⟨#[]⟩, .int .i64 0, .slice none 0 0, .int .i64 0, .string ⟨#[]⟩, .int .i64 0, .slice none 0 0], [(0, 74), (7, 70), (20, 25)], 0, 0⟩),
  (177, ⟨false, 1, [.nilFunc], [], 0, 0⟩),
  (183, ⟨true, 1, [.slice none 0 0], [(0, 31)], 0, 0⟩),
  (185, ⟨false, 1, [.pointer none], [], 40, 0⟩),
  (186, ⟨false, 1, [.map none], [], 0, 0⟩),
  (188, ⟨true, 1, [.map none], [(0, 186)], 0, 0⟩),
  (192, ⟨false, 1, [.pointer none], [], 288, 0⟩),
  (195, ⟨true, 4, [.pointer none, .pointer none, .int .i64 0, .slice none 0 0], [(0, 33), (1, 192), (2, 3), (3, 62)], 0, 0⟩),
  (205, ⟨true, 7, [.string ⟨#[]⟩, .int .i64 0, .int .i64 0, .int .i64 0, .string ⟨#[]⟩, .int .i64 0, .slice none 0 0], [(0, 9), (1, 3), (2, 3), (3, 25)], 0, 0⟩),
  (213, ⟨false, 1, [.nilFunc], [], 0, 0⟩),
  (214, ⟨false, 1, [.map none], [], 0, 0⟩),
  (221, ⟨false, 1, [.pointer none], [], 223, 0⟩),
  (223, ⟨true, 36, [.string ⟨#[]⟩, .string ⟨#[]⟩, .int .i64 0, .int .i64 0, .string ⟨#[]⟩, .int .i64 0, .slice none 0 0, .string ⟨#[]⟩, .int .i64 0, .int .i64 0, .string ⟨#[]⟩, .int .i64 0, .slice none 0 0, .string ⟨#[]⟩, .int .i64 0, .int .i64 0, .int .i64 0, .string ⟨#[]⟩, .int .i64 0, .slice none 0 0, .string ⟨#[]⟩, .slice none 0 0, .int .i64 0, .slice none 0 0, .string ⟨#[]⟩, .bool false, .int .i64 0, .int .i64 0, .int .i64 0, .pointer none, .int .i64 0, .slice none 0 0, .int .i64 0, .string ⟨#[]⟩, .int .i64 0, .slice none 0 0], [(0, 82), (29, 45), (30, 3), (31, 23), (32, 25)], 0, 0⟩),
  (225, ⟨false, 1, [.nilFunc], [], 0, 0⟩),
  (226, ⟨true, 3, [.nilFunc, .nilFunc, .nilFunc], [], 225, 0⟩),
  (231, ⟨false, 1, [.nilFunc], [], 0, 0⟩),
  (240, ⟨true, 20, [.string ⟨#[]⟩, .int .i64 0, .int .i64 0, .string ⟨#[]⟩, .int .i64 0, .slice none 0 0, .string ⟨#[]⟩, .int .i64 0, .int .i64 0, .int .i64 0, .string ⟨#[]⟩, .int .i64 0, .slice none 0 0, .string ⟨#[]⟩, .slice none 0 0, .int .i64 0, .slice none 0 0, .string ⟨#[]⟩, .bool false, .int .i64 0], [(0, 70), (13, 74)], 0, 0⟩),
  (245, ⟨false, 1, [.pointer none], [], 247, 0⟩),
  (247, ⟨true, 41, [.string ⟨#[]⟩, .string ⟨#[]⟩, .int .i64 0, .int .i64 0, .string ⟨#[]⟩, .int .i64 0, .slice none 0 0, .string ⟨#[]⟩, .int .i64 0, .int .i64 0, .string ⟨#[]⟩, .int .i64 0, .slice none 0 0, .string ⟨#[]⟩, .int .i64 0, .int .i64 0, .int .i64 0, .string ⟨#[]⟩, .int .i64 0, .slice none 0 0, .string ⟨#[]⟩, .slice none 0 0, .int .i64 0, .slice none 0 0, .string ⟨#[]⟩, .bool false, .int .i64 0, .int .i64 0, .int .i64 0, .pointer none, .int .i64 0, .string ⟨#[]⟩, .slice none 0 0, .int .i64 0, .slice none 0 0, .string ⟨#[]⟩, .bool false, .int .i64 0, .bool false, .int .i64 0, .int .i64 0], [(0, 82), (29, 45), (30, 3), (31, 74), (38, 4), (39, 68)], 0, 0⟩),
  (248, ⟨true, 20, [.string ⟨#[]⟩, .int .i64 0, .int .i64 0, .string ⟨#[]⟩, .int .i64 0, .slice none 0 0, .string ⟨#[]⟩, .int .i64 0, .int .i64 0, .int .i64 0, .string ⟨#[]⟩, .int .i64 0, .slice none 0 0, .string ⟨#[]⟩, .slice none 0 0, .int .i64 0, .slice none 0 0, .string ⟨#[]⟩, .bool false, .int .i64 0], [(0, 70), (13, 74)], 0, 0⟩),
  (253, ⟨false, 1, [.slice none 0 0], [], 5, 1⟩),
  (255, ⟨true, 7, [.string ⟨#[]⟩, .int .i64 0, .string ⟨#[]⟩, .int .i64 0, .slice none 0 0, .int .i64 0, .slice none 0 0], [(0, 9), (1, 25), (5, 3), (6, 119)], 0, 0⟩),
  (262, ⟨false, 1, [.nilFunc], [], 0, 0⟩),
  (265, ⟨true, 5, [.string ⟨#[]⟩, .string ⟨#[]⟩, .int .i64 0, .int .i64 0, .int .i64 0], [(0, 9), (1, 9), (2, 3), (3, 68)], 0, 0⟩),
  (267, ⟨false, 1, [.pointer none], [], 37, 0⟩),
  (268, ⟨false, 1, [.nilFunc], [], 0, 0⟩),
  (270, ⟨false, 1, [.nilFunc], [], 0, 0⟩),
  (271, ⟨false, 1, [.pointer none], [], 316, 0⟩),
  (273, ⟨false, 1, [.map none], [], 0, 0⟩),
  (275, ⟨true, 4, [.pointer none, .string ⟨#[]⟩, .pointer none, .map none], [(0, 271), (1, 9), (2, 113), (3, 273)], 0, 0⟩),
  (286, ⟨false, 1, [.slice none 0 0], [], 345, 1⟩),
  (288, ⟨true, 2, [.int .i64 0, .slice none 0 0], [(0, 3), (1, 286)], 0, 0⟩),
  (296, ⟨true, 6, [.int .i64 0, .int .i64 0, .int .i64 0, .int .i64 0, .int .i64 0, .int .i64 0], [], 22, 0⟩),
  (300, ⟨true, 5, [.int .i64 0, .int .i64 0, .int .i64 0, .int .i64 0, .int .i64 0], [], 22, 0⟩),
  (301, ⟨false, 1, [.slice none 0 0], [], 22, 1⟩),
  (302, ⟨false, 1, [.slice none 0 0], [], 336, 1⟩),
  (304, ⟨true, 2, [.int .i64 0, .slice none 0 0], [(0, 3), (1, 302)], 0, 0⟩),
  (312, ⟨false, 1, [.nilFunc], [], 0, 0⟩),
  (316, ⟨true, 7, [.string ⟨#[]⟩, .int .i64 0, .string ⟨#[]⟩, .int .i64 0, .slice none 0 0, .pointer none, .slice none 0 0], [(0, 9), (1, 25), (5, 192), (6, 62)], 0, 0⟩),
  (326, ⟨false, 1, [.complex .f64 0 0], [], 0, 0⟩),
  (329, ⟨false, 1, [.float .f64 0], [], 0, 0⟩),
  (330, ⟨false, 1, [.pointer none], [], 332, 0⟩),
  (332, ⟨true, 2, [.slice none 0 0, .bool false], [(0, 23), (1, 4)], 0, 0⟩),
  (336, ⟨true, 5, [.int .i64 0, .string ⟨#[]⟩, .int .i64 0, .slice none 0 0, .int .i64 0], [(0, 25), (4, 3)], 0, 0⟩),
  (338, ⟨false, 1, [.nilFunc], [], 0, 0⟩),
  (342, ⟨true, 4, [.int .i64 0, .int .i64 0, .int .i64 0, .int .i64 0], [], 22, 0⟩),
  (345, ⟨true, 5, [.int .i64 0, .string ⟨#[]⟩, .int .i64 0, .slice none 0 0, .int .i64 0], [(0, 25), (4, 3)], 0, 0⟩),
  (346, ⟨false, 1, [.map none], [], 0, 0⟩),
  (353, ⟨false, 1, [.int .u64 0], [], 0, 0⟩),
  (359, ⟨true, 4, [.pointer none, .pointer none, .pointer none, .string ⟨#[]⟩], [(0, 17), (1, 17), (2, 17), (3, 9)], 0, 0⟩),
  (360, ⟨true, 0, [], [], 16, 0⟩),
  (364, ⟨false, 1, [.int .u32 0], [], 0, 0⟩),
  (365, ⟨false, 1, [.int .u8 0], [], 0, 0⟩),
  (366, ⟨false, 1, [.int .u8 0], [], 0, 0⟩),
  (367, ⟨false, 1, [.nilFunc], [], 0, 0⟩),
  (368, ⟨false, 1, [.pointer none], [], 5, 0⟩),
  (369, ⟨false, 1, [.int .i32 0], [], 0, 0⟩),
  (370, ⟨false, 1, [.int .i32 0], [], 0, 0⟩),
  (372, ⟨true, 11, [.int .u64 0, .int .u64 0, .int .u32 0, .int .u8 0, .int .u8 0, .int .u8 0, .int .u8 0, .nilFunc, .pointer none, .int .i32 0, .int .i32 0], [(0, 12), (1, 12), (2, 364), (3, 365), (4, 5), (5, 5), (6, 366), (7, 367), (8, 368), (9, 369), (10, 370)], 0, 0⟩)]
def tab : Tab := fun t => lk tabL t
@[go_sem] theorem tab2 : tab 2 = some ⟨false, 1, [.int .i64 0], [], 0, 0⟩ := rfl
@[go_sem] theorem tab3 : tab 3 = some ⟨false, 1, [.int .i64 0], [], 0, 0⟩ := rfl
@[go_sem] theorem tab4 : tab 4 = some ⟨false, 1, [.bool false], [], 0, 0⟩ := rfl
@[go_sem] theorem tab5 : tab 5 = some ⟨false, 1, [.int .u8 0], [], 0, 0⟩ := rfl
@[go_sem] theorem tab6 : tab 6 = some ⟨false, 1, [.int .u8 0], [], 0, 0⟩ := rfl
@[go_sem] theorem tab8 : tab 8 = some ⟨true, 4, [.int .i64 0, .int .i64 0, .bool false, .int .u8 0], [(0, 2), (1, 3), (2, 4), (3, 6)], 0, 0⟩ := rfl
@[go_sem] theorem tab9 : tab 9 = some ⟨false, 1, [.string ⟨#[]⟩], [], 0, 2⟩ := rfl
@[go_sem] theorem tab10 : tab 10 = some ⟨false, 1, [.string ⟨#[]⟩], [], 0, 2⟩ := rfl
@[go_sem] theorem tab11 : tab 11 = some ⟨false, 1, [.string ⟨#[]⟩], [], 0, 2⟩ := rfl
@[go_sem] theorem tab12 : tab 12 = some ⟨false, 1, [.int .u64 0], [], 0, 0⟩ := rfl
@[go_sem] theorem tab14 : tab 14 = some ⟨true, 2, [.string ⟨#[]⟩, .int .u64 0], [(0, 9), (1, 12)], 0, 0⟩ := rfl
@[go_sem] theorem tab15 : tab 15 = some ⟨false, 1, [.pointer none], [], 359, 0⟩ := rfl
@[go_sem] theorem tab16 : tab 16 = some ⟨false, 1, [.pointer none], [], 362, 0⟩ := rfl
@[go_sem] theorem tab17 : tab 17 = some ⟨false, 1, [.pointer none], [], 372, 0⟩ := rfl
@[go_sem] theorem tab19 : tab 19 = some ⟨true, 1, [.pointer none], [(0, 17)], 0, 0⟩ := rfl
@[go_sem] theorem tab22 : tab 22 = some ⟨false, 1, [.int .i64 0], [], 0, 0⟩ := rfl
@[go_sem] theorem tab23 : tab 23 = some ⟨false, 1, [.slice none 0 0], [], 25, 1⟩ := rfl
@[go_sem] theorem tab25 : tab 25 = some ⟨true, 4, [.int .i64 0, .string ⟨#[]⟩, .int .i64 0, .slice none 0 0], [(0, 22), (1, 9), (2, 3), (3, 23)], 0, 0⟩ := rfl
@[go_sem] theorem tab31 : tab 31 = some ⟨false, 1, [.slice none 0 0], [], 40, 1⟩ := rfl
@[go_sem] theorem tab33 : tab 33 = some ⟨false, 1, [.pointer none], [], 188, 0⟩ := rfl
@[go_sem] theorem tab34 : tab 34 = some ⟨false, 1, [.pointer none], [], 183, 0⟩ := rfl
@[go_sem] theorem tab37 : tab 37 = some ⟨false, 1, [.slice none 0 0], [], 9, 1⟩ := rfl
@[go_sem] theorem tab38 : tab 38 = some ⟨false, 1, [.slice none 0 0], [], 3, 1⟩ := rfl
@[go_sem] theorem tab40 : tab 40 = some ⟨true, 8, [.string ⟨#[]⟩, .int .i64 0, .bool false, .bool false, .slice none 0 0, .slice none 0 0, .slice none 0 0, .int .i64 0], [(0, 9), (1, 3), (2, 4), (3, 4), (4, 37), (5, 37), (6, 38), (7, 3)], 0, 0⟩ := rfl
@[go_sem] theorem tab41 : tab 41 = some ⟨false, 1, [.int .i64 0], [], 0, 0⟩ := rfl
@[go_sem] theorem tab44 : tab 44 = some ⟨false, 1, [.nilFunc], [], 0, 0⟩ := rfl
@[go_sem] theorem tab45 : tab 45 = some ⟨false, 1, [.pointer none], [], 195, 0⟩ := rfl
@[go_sem] theorem tab57 : tab 57 = some ⟨false, 1, [.slice none 0 0], [], 60, 1⟩ := rfl
@[go_sem] theorem tab60 : tab 60 = some ⟨true, 7, [.int .i64 0, .int .i64 0, .int .i64 0, .string ⟨#[]⟩, .int .i64 0, .slice none 0 0, .string ⟨#[]⟩], [(0, 3), (1, 3), (2, 25), (6, 9)], 0, 0⟩ := rfl
@[go_sem] theorem tab62 : tab 62 = some ⟨false, 1, [.slice none 0 0], [], 79, 1⟩ := rfl
@[go_sem] theorem tab68 : tab 68 = some ⟨true, 2, [.int .i64 0, .int .i64 0], [(0, 3), (1, 3)], 0, 0⟩ := rfl
@[go_sem] theorem tab70 : tab 70 = some ⟨true, 13, [.string ⟨#[]⟩, .int .i64 0, .int .i64 0, .string ⟨#[]⟩, .int .i64 0, .slice none 0 0, .string ⟨#[]⟩, .int .i64 0, .int .i64 0, .int .i64 0, .string ⟨#[]⟩, .int .i64 0, .slice none 0 0], [(0, 9), (1, 3), (2, 25), (6, 9), (7, 68), (9, 25)], 0, 0⟩ := rfl
@[go_sem] theorem tab74 : tab 74 = some ⟨true, 7, [.string ⟨#[]⟩, .slice none 0 0, .int .i64 0, .slice none 0 0, .string ⟨#[]⟩, .bool false, .int .i64 0], [(0, 9), (1, 38), (2, 3), (3, 37), (4, 9), (5, 4), (6, 3)], 0, 0⟩ := rfl
@[go_sem] theorem tab77 : tab 77 = some ⟨false, 1, [.int .i64 0], [], 0, 0⟩ := rfl
@[go_sem] theorem tab79 : tab 79 = some ⟨true, 10, [.int .i64 0, .int .i64 0, .string ⟨#[]⟩, .string ⟨#[]⟩, .string ⟨#[]⟩, .slice none 0 0, .int .i64 0, .int .i64 0, .bool false, .int .i64 0], [(0, 77), (1, 3), (2, 9), (3, 9), (4, 9), (5, 37), (6, 3), (7, 3), (8, 4), (9, 41)], 0, 0⟩ := rfl
@[go_sem] theorem tab82 : tab 82 = some ⟨true, 29, [.string ⟨#[]⟩, .string ⟨#[]⟩, .int .i64 0, .int .i64 0, .string ⟨#[]⟩, .int .i64 0, .slice none 0 0, .string ⟨#[]⟩, .int .i64 0, .int .i64 0, .string ⟨#[]⟩, .int .i64 0, .slice none 0 0, .string ⟨#[]⟩, .int .i64 0, .int .i64 0, .int .i64 0, .string ⟨#[]⟩, .int .i64 0, .slice none 0 0, .string ⟨#[]⟩, .slice none 0 0, .int .i64 0, .slice none 0 0, .string ⟨#[]⟩, .bool false, .int .i64 0, .int .i64 0, .int .i64 0], [(0, 9), (1, 9), (2, 3), (3, 25), (7, 70), (20, 74), (27, 68)], 0, 0⟩ := rfl
@[go_sem] theorem tab90 : tab 90 = some ⟨true, 9, [.string ⟨#[]⟩, .string ⟨#[]⟩, .string ⟨#[]⟩, .int .i64 0, .int .i64 0, .slice none 0 0, .bool false, .int .i64 0, .int .i64 0], [(0, 9), (1, 9), (2, 9), (3, 3), (4, 3), (5, 37), (6, 4), (7, 68)], 0, 0⟩ := rfl
@[go_sem] theorem tab91 : tab 91 = some ⟨false, 1, [.pointer none], [], 100, 0⟩ := rfl
@[go_sem] theorem tab93 : tab 93 = some ⟨true, 29, [.string ⟨#[]⟩, .string ⟨#[]⟩, .int .i64 0, .int .i64 0, .string ⟨#[]⟩, .int .i64 0, .slice none 0 0, .string ⟨#[]⟩, .int .i64 0, .int .i64 0, .string ⟨#[]⟩, .int .i64 0, .slice none 0 0, .string ⟨#[]⟩, .int .i64 0, .int .i64 0, .int .i64 0, .string ⟨#[]⟩, .int .i64 0, .slice none 0 0, .string ⟨#[]⟩, .slice none 0 0, .int .i64 0, .slice none 0 0, .string ⟨#[]⟩, .bool false, .int .i64 0, .int .i64 0, .int .i64 0], [(0, 9), (1, 9), (2, 3), (3, 25), (7, 70), (20, 74), (27, 68)], 0, 0⟩ := rfl
@[go_sem] theorem tab94 : tab 94 = some ⟨true, 9, [.string ⟨#[]⟩, .string ⟨#[]⟩, .string ⟨#[]⟩, .int .i64 0, .int .i64 0, .slice none 0 0, .bool false, .int .i64 0, .int .i64 0], [(0, 9), (1, 9), (2, 9), (3, 3), (4, 3), (5, 37), (6, 4), (7, 68)], 0, 0⟩ := rfl
@[go_sem] theorem tab98 : tab 98 = some ⟨false, 1, [.pointer none], [], 304, 0⟩ := rfl
@[go_sem] theorem tab100 : tab 100 = some ⟨true, 4, [.pointer none, .pointer none, .int .i64 0, .slice none 0 0], [(0, 34), (1, 98), (2, 3), (3, 62)], 0, 0⟩ := rfl
@[go_sem] theorem tab113 : tab 113 = some ⟨false, 1, [.pointer none], [], 255, 0⟩ := rfl
@[go_sem] theorem tab119 : tab 119 = some ⟨false, 1, [.slice none 0 0], [], 125, 1⟩ := rfl
@[go_sem] theorem tab123 : tab 123 = some ⟨true, 13, [.string ⟨#[]⟩, .string ⟨#[]⟩, .int .i64 0, .string ⟨#[]⟩, .int .i64 0, .slice none 0 0, .int .i64 0, .string ⟨#[]⟩, .int .i64 0, .slice none 0 0, .int .i64 0, .int .i64 0, .int .i64 0], [(0, 9), (1, 9), (2, 25), (6, 25), (10, 3), (11, 68)], 0, 0⟩ := rfl
@[go_sem] theorem tab125 : tab 125 = some ⟨true, 13, [.string ⟨#[]⟩, .string ⟨#[]⟩, .int .i64 0, .string ⟨#[]⟩, .int .i64 0, .slice none 0 0, .int .i64 0, .string ⟨#[]⟩, .int .i64 0, .slice none 0 0, .int .i64 0, .int .i64 0, .int .i64 0], [(0, 9), (1, 9), (2, 25), (6, 25), (10, 3), (11, 68)], 0, 0⟩ := rfl
@[go_sem] theorem tab127 : tab 127 = some ⟨false, 1, [.nilFunc], [], 0, 0⟩ := rfl
@[go_sem] theorem tab129 : tab 129 = some ⟨false, 1, [.slice none 0 0], [], 134, 1⟩ := rfl
@[go_sem] theorem tab131 : tab 131 = some ⟨false, 1, [.pointer none], [], 139, 0⟩ := rfl
@[go_sem] theorem tab134 : tab 134 = some ⟨true, 22, [.int .i64 0, .string ⟨#[]⟩, .string ⟨#[]⟩, .int .i64 0, .string ⟨#[]⟩, .int .i64 0, .slice none 0 0, .int .i64 0, .string ⟨#[]⟩, .int .i64 0, .slice none 0 0, .int .i64 0, .int .i64 0, .int .i64 0, .int .i64 0, .string ⟨#[]⟩, .int .i64 0, .slice none 0 0, .string ⟨#[]⟩, .string ⟨#[]⟩, .int .i64 0, .int .i64 0], [(0, 3), (1, 125), (14, 25), (18, 9), (19, 9), (20, 3), (21, 3)], 0, 0⟩ := rfl
@[go_sem] theorem tab137 : tab 137 = some ⟨false, 1, [.slice none 0 0], [], 123, 1⟩ := rfl
@[go_sem] theorem tab139 : tab 139 = some ⟨true, 7, [.string ⟨#[]⟩, .int .i64 0, .string ⟨#[]⟩, .int .i64 0, .slice none 0 0, .int .i64 0, .slice none 0 0], [(0, 9), (1, 25), (5, 3), (6, 137)], 0, 0⟩ := rfl
@[go_sem] theorem tab153 : tab 153 = some ⟨false, 1, [.pointer none], [], 275, 0⟩ := rfl
@[go_sem] theorem tab159 : tab 159 = some ⟨true, 24, [.string ⟨#[]⟩, .slice none 0 0, .int .i64 0, .slice none 0 0, .string ⟨#[]⟩, .bool false, .int .i64 0, .string ⟨#[]⟩, .int .i64 0, .int .i64 0, .string ⟨#[]⟩, .int .i64 0, .slice none 0 0, .string ⟨#[]⟩, .int .i64 0, .int .i64 0, .int .i64 0, .string ⟨#[]⟩, .int .i64 0, .slice none 0 0, .int .i64 0, .string ⟨#[]⟩, .int .i64 0, .slice none 0 0], [(0, 74), (7, 70), (20, 25)], 0, 0⟩ := rfl
@[go_sem] theorem tab177 : tab 177 = some ⟨false, 1, [.nilFunc], [], 0, 0⟩ := rfl
@[go_sem] theorem tab183 : tab 183 = some ⟨true, 1, [.slice none 0 0], [(0, 31)], 0, 0⟩ := rfl
@[go_sem] theorem tab185 : tab 185 = some ⟨false, 1, [.pointer none], [], 40, 0⟩ := rfl
@[go_sem] theorem tab186 : tab 186 = some ⟨false, 1, [.map none], [], 0, 0⟩ := rfl
@[go_sem] theorem tab188 : tab 188 = some ⟨true, 1, [.map none], [(0, 186)], 0, 0⟩ := rfl
@[go_sem] theorem tab192 : tab 192 = some ⟨false, 1, [.pointer none], [], 288, 0⟩ := rfl
@[go_sem] theorem tab195 : tab 195 = some ⟨true, 4, [.pointer none, .pointer none, .int .i64 0, .slice none 0 0], [(0, 33), (1, 192), (2, 3), (3, 62)], 0, 0⟩ := rfl
@[go_sem] theorem tab205 : tab 205 = some ⟨true, 7, [.string ⟨#[]⟩, .int .i64 0, .int .i64 0, .int .i64 0, .string ⟨#[]⟩, .int .i64 0, .slice none 0 0], [(0, 9), (1, 3), (2, 3), (3, 25)], 0, 0⟩ := rfl
@[go_sem] theorem tab213 : tab 213 = some ⟨false, 1, [.nilFunc], [], 0, 0⟩ := rfl
@[go_sem] theorem tab214 : tab 214 = some ⟨false, 1, [.map none], [], 0, 0⟩ := rfl
@[go_sem] theorem tab221 : tab 221 = some ⟨false, 1, [.pointer none], [], 223, 0⟩ := rfl
@[go_sem] theorem tab223 : tab 223 = some ⟨true, 36, [.string ⟨#[]⟩, .string ⟨#[]⟩, .int .i64 0, .int .i64 0, .string ⟨#[]⟩, .int .i64 0, .slice none 0 0, .string ⟨#[]⟩, .int .i64 0, .int .i64 0, .string ⟨#[]⟩, .int .i64 0, .slice none 0 0, .string ⟨#[]⟩, .int .i64 0, .int .i64 0, .int .i64 0, .string ⟨#[]⟩, .int .i64 0, .slice none 0 0, .string ⟨#[]⟩, .slice none 0 0, .int .i64 0, .slice none 0 0, .string ⟨#[]⟩, .bool false, .int .i64 0, .int .i64 0, .int .i64 0, .pointer none, .int .i64 0, .slice none 0 0, .int .i64 0, .string ⟨#[]⟩, .int .i64 0, .slice none 0 0], [(0, 82), (29, 45), (30, 3), (31, 23), (32, 25)], 0, 0⟩ := rfl
@[go_sem] theorem tab225 : tab 225 = some ⟨false, 1, [.nilFunc], [], 0, 0⟩ := rfl
@[go_sem] theorem tab226 : tab 226 = some ⟨true, 3, [.nilFunc, .nilFunc, .nilFunc], [], 225, 0⟩ := rfl
@[go_sem] theorem tab231 : tab 231 = some ⟨false, 1, [.nilFunc], [], 0, 0⟩ := rfl
@[go_sem] theorem tab240 : tab 240 = some ⟨true, 20, [.string ⟨#[]⟩, .int .i64 0, .int .i64 0, .string ⟨#[]⟩, .int .i64 0, .slice none 0 0, .string ⟨#[]⟩, .int .i64 0, .int .i64 0, .int .i64 0, .string ⟨#[]⟩, .int .i64 0, .slice none 0 0, .string ⟨#[]⟩, .slice none 0 0, .int .i64 0, .slice none 0 0, .string ⟨#[]⟩, .bool false, .int .i64 0], [(0, 70), (13, 74)], 0, 0⟩ := rfl
@[go_sem] theorem tab245 : tab 245 = some ⟨false, 1, [.pointer none], [], 247, 0⟩ := rfl
@[go_sem] theorem tab247 : tab 247 = some ⟨true, 41, [.string ⟨#[]⟩, .string ⟨#[]⟩, .int .i64 0, .int .i64 0, .string ⟨#[]⟩, .int .i64 0, .slice none 0 0, .string ⟨#[]⟩, .int .i64 0, .int .i64 0, .string ⟨#[]⟩, .int .i64 0, .slice none 0 0, .string ⟨#[]⟩, .int .i64 0, .int .i64 0, .int .i64 0, .string ⟨#[]⟩, .int .i64 0, .slice none 0 0, .string ⟨#[]⟩, .slice none 0 0, .int .i64 0, .slice none 0 0, .string ⟨#[]⟩, .bool false, .int .i64 0, .int .i64 0, .int .i64 0, .pointer none, .int .i64 0, .string ⟨#[]⟩, .slice none 0 0, .int .i64 0, .slice none 0 0, .string ⟨#[]⟩, .bool false, .int .i64 0, .bool false, .int .i64 0, .int .i64 0], [(0, 82), (29, 45), (30, 3), (31, 74), (38, 4), (39, 68)], 0, 0⟩ := rfl
@[go_sem] theorem tab248 : tab 248 = some ⟨true, 20, [.string ⟨#[]⟩, .int .i64 0, .int .i64 0, .string ⟨#[]⟩, .int .i64 0, .slice none 0 0, .string ⟨#[]⟩, .int .i64 0, .int .i64 0, .int .i64 0, .string ⟨#[]⟩, .int .i64 0, .slice none 0 0, .string ⟨#[]⟩, .slice none 0 0, .int .i64 0, .slice none 0 0, .string ⟨#[]⟩, .bool false, .int .i64 0], [(0, 70), (13, 74)], 0, 0⟩ := rfl
@[go_sem] theorem tab253 : tab 253 = some ⟨false, 1, [.slice none 0 0], [], 5, 1⟩ := rfl
@[go_sem] theorem tab255 : tab 255 = some ⟨true, 7, [.string ⟨#[]⟩, .int .i64 0, .string ⟨#[]⟩, .int .i64 0, .slice none 0 0, .int .i64 0, .slice none 0 0], [(0, 9), (1, 25), (5, 3), (6, 119)], 0, 0⟩ := rfl
@[go_sem] theorem tab262 : tab 262 = some ⟨false, 1, [.nilFunc], [], 0, 0⟩ := rfl
@[go_sem] theorem tab265 : tab 265 = some ⟨true, 5, [.string ⟨#[]⟩, .string ⟨#[]⟩, .int .i64 0, .int .i64 0, .int .i64 0], [(0, 9), (1, 9), (2, 3), (3, 68)], 0, 0⟩ := rfl
@[go_sem] theorem tab267 : tab 267 = some ⟨false, 1, [.pointer none], [], 37, 0⟩ := rfl
@[go_sem] theorem tab268 : tab 268 = some ⟨false, 1, [.nilFunc], [], 0, 0⟩ := rfl
@[go_sem] theorem tab270 : tab 270 = some ⟨false, 1, [.nilFunc], [], 0, 0⟩ := rfl
@[go_sem] theorem tab271 : tab 271 = some ⟨false, 1, [.pointer none], [], 316, 0⟩ := rfl
@[go_sem] theorem tab273 : tab 273 = some ⟨false, 1, [.map none], [], 0, 0⟩ := rfl
@[go_sem] theorem tab275 : tab 275 = some ⟨true, 4, [.pointer none, .string ⟨#[]⟩, .pointer none, .map none], [(0, 271), (1, 9), (2, 113), (3, 273)], 0, 0⟩ := rfl
@[go_sem] theorem tab286 : tab 286 = some ⟨false, 1, [.slice none 0 0], [], 345, 1⟩ := rfl
@[go_sem] theorem tab288 : tab 288 = some ⟨true, 2, [.int .i64 0, .slice none 0 0], [(0, 3), (1, 286)], 0, 0⟩ := rfl
@[go_sem] theorem tab296 : tab 296 = some ⟨true, 6, [.int .i64 0, .int .i64 0, .int .i64 0, .int .i64 0, .int .i64 0, .int .i64 0], [], 22, 0⟩ := rfl
@[go_sem] theorem tab300 : tab 300 = some ⟨true, 5, [.int .i64 0, .int .i64 0, .int .i64 0, .int .i64 0, .int .i64 0], [], 22, 0⟩ := rfl
@[go_sem] theorem tab301 : tab 301 = some ⟨false, 1, [.slice none 0 0], [], 22, 1⟩ := rfl
@[go_sem] theorem tab302 : tab 302 = some ⟨false, 1, [.slice none 0 0], [], 336, 1⟩ := rfl
@[go_sem] theorem tab304 : tab 304 = some ⟨true, 2, [.int .i64 0, .slice none 0 0], [(0, 3), (1, 302)], 0, 0⟩ := rfl
@[go_sem] theorem tab312 : tab 312 = some ⟨false, 1, [.nilFunc], [], 0, 0⟩ := rfl
@[go_sem] theorem tab316 : tab 316 = some ⟨true, 7, [.string ⟨#[]⟩, .int .i64 0, .string ⟨#[]⟩, .int .i64 0, .slice none 0 0, .pointer none, .slice none 0 0], [(0, 9), (1, 25), (5, 192), (6, 62)], 0, 0⟩ := rfl
@[go_sem] theorem tab326 : tab 326 = some ⟨false, 1, [.complex .f64 0 0], [], 0, 0⟩ := rfl
@[go_sem] theorem tab329 : tab 329 = some ⟨false, 1, [.float .f64 0], [], 0, 0⟩ := rfl
@[go_sem] theorem tab330 : tab 330 = some ⟨false, 1, [.pointer none], [], 332, 0⟩ := rfl
@[go_sem] theorem tab332 : tab 332 = some ⟨true, 2, [.slice none 0 0, .bool false], [(0, 23), (1, 4)], 0, 0⟩ := rfl
@[go_sem] theorem tab336 : tab 336 = some ⟨true, 5, [.int .i64 0, .string ⟨#[]⟩, .int .i64 0, .slice none 0 0, .int .i64 0], [(0, 25), (4, 3)], 0, 0⟩ := rfl
@[go_sem] theorem tab338 : tab 338 = some ⟨false, 1, [.nilFunc], [], 0, 0⟩ := rfl
@[go_sem] theorem tab342 : tab 342 = some ⟨true, 4, [.int .i64 0, .int .i64 0, .int .i64 0, .int .i64 0], [], 22, 0⟩ := rfl
@[go_sem] theorem tab345 : tab 345 = some ⟨true, 5, [.int .i64 0, .string ⟨#[]⟩, .int .i64 0, .slice none 0 0, .int .i64 0], [(0, 25), (4, 3)], 0, 0⟩ := rfl
@[go_sem] theorem tab346 : tab 346 = some ⟨false, 1, [.map none], [], 0, 0⟩ := rfl
@[go_sem] theorem tab353 : tab 353 = some ⟨false, 1, [.int .u64 0], [], 0, 0⟩ := rfl
@[go_sem] theorem tab359 : tab 359 = some ⟨true, 4, [.pointer none, .pointer none, .pointer none, .string ⟨#[]⟩], [(0, 17), (1, 17), (2, 17), (3, 9)], 0, 0⟩ := rfl
@[go_sem] theorem tab360 : tab 360 = some ⟨true, 0, [], [], 16, 0⟩ := rfl
@[go_sem] theorem tab364 : tab 364 = some ⟨false, 1, [.int .u32 0], [], 0, 0⟩ := rfl
@[go_sem] theorem tab365 : tab 365 = some ⟨false, 1, [.int .u8 0], [], 0, 0⟩ := rfl
@[go_sem] theorem tab366 : tab 366 = some ⟨false, 1, [.int .u8 0], [], 0, 0⟩ := rfl
@[go_sem] theorem tab367 : tab 367 = some ⟨false, 1, [.nilFunc], [], 0, 0⟩ := rfl
@[go_sem] theorem tab368 : tab 368 = some ⟨false, 1, [.pointer none], [], 5, 0⟩ := rfl
@[go_sem] theorem tab369 : tab 369 = some ⟨false, 1, [.int .i32 0], [], 0, 0⟩ := rfl
@[go_sem] theorem tab370 : tab 370 = some ⟨false, 1, [.int .i32 0], [], 0, 0⟩ := rfl
@[go_sem] theorem tab372 : tab 372 = some ⟨true, 11, [.int .u64 0, .int .u64 0, .int .u32 0, .int .u8 0, .int .u8 0, .int .u8 0, .int .u8 0, .nilFunc, .pointer none, .int .i32 0, .int .i32 0], [(0, 12), (1, 12), (2, 364), (3, 365), (4, 5), (5, 5), (6, 366), (7, 367), (8, 368), (9, 369), (10, 370)], 0, 0⟩ := rfl
theorem tabOk : TabOk Tryz.prog tab := tabOk_of (L := tabL) (by kernel_rfl) (by kernel_rfl)
end Go.Proofs.YtobhfopgoidniaaGreat
