/- Part 10 of what follows is proved here: the layer over the walk. -/
import Derived.Test.YtpephpefjddgcaaGreatV8
import Derived.Test.YtpephpefjddgcaaGreatProg
import Derived.Test.YtpephpefjddgcaaGreatV1
import Derived.KernelRfl
set_option linter.unusedVariables false
set_option linter.unusedSimpArgs false
set_option maxRecDepth 100000
/- The seat's types, as the V layer wants them; each line is checked against the program by the kernel. -/
namespace Go.Proofs.YtpephpefjddgcaaGreat
open Go Go.VC

def tl : List (Nat × TI) := [(1, ⟨.other, 1, 8, [.d .nilfn], false⟩),
  (2, ⟨.int .i64, 1, 8, [.d (.int .i64 0)], false⟩),
  (3, ⟨.int .i64, 1, 8, [.d (.int .i64 0)], false⟩),
  (4, ⟨.bool, 1, 1, [.d (.bool false)], false⟩),
  (5, ⟨.int .u8, 1, 1, [.d (.int .u8 0)], false⟩),
  (9, ⟨.str, 1, 16, [.d (.str ⟨#[]⟩)], false⟩),
  (12, ⟨.int .u64, 1, 8, [.d (.int .u64 0)], false⟩),
  (21, ⟨.int .i32, 1, 4, [.d (.int .i32 0)], false⟩),
  (22, ⟨.slice 53, 1, 24, [.nil], false⟩),
  (23, ⟨.struct [(0, 3), (1, 3)], 2, 16, [.d (.int .i64 0), .d (.int .i64 0)], true⟩),
  (24, ⟨.struct [(0, 3), (1, 3)], 2, 16, [.d (.int .i64 0), .d (.int .i64 0)], true⟩),
  (25, ⟨.slice 34, 1, 24, [.nil], false⟩),
  (26, ⟨.slice 4, 1, 24, [.nil], false⟩),
  (27, ⟨.other, 1, 8, [.d .nilfn], false⟩),
  (28, ⟨.other, 1, 8, [.d .nilfn], false⟩),
  (29, ⟨.int .i64, 1, 8, [.d (.int .i64 0)], false⟩),
  (31, ⟨.other, 1, 8, [.d .nilfn], false⟩),
  (33, ⟨.other, 1, 8, [.d .nilfn], false⟩),
  (34, ⟨.slice 3, 1, 24, [.nil], false⟩),
  (35, ⟨.other, 1, 8, [.d .nilfn], false⟩),
  (36, ⟨.other, 1, 8, [.d .nilfn], false⟩),
  (38, ⟨.other, 1, 8, [.d .nilfn], false⟩),
  (39, ⟨.other, 1, 8, [.d .nilfn], false⟩),
  (40, ⟨.slice 24, 1, 24, [.nil], false⟩),
  (41, ⟨.slice 112, 1, 24, [.nil], false⟩),
  (42, ⟨.struct [(0, 3), (1, 41)], 2, 32, [.d (.int .i64 0), .nil], false⟩),
  (43, ⟨.struct [(0, 3), (1, 41)], 2, 32, [.d (.int .i64 0), .nil], false⟩),
  (45, ⟨.other, 1, 8, [.d .nilfn], false⟩),
  (47, ⟨.other, 1, 8, [.d .nilfn], false⟩),
  (48, ⟨.other, 1, 8, [.d .nilfn], false⟩),
  (49, ⟨.other, 1, 8, [.d .nilfn], false⟩),
  (50, ⟨.other, 1, 8, [.d .nilfn], false⟩),
  (51, ⟨.slice 142, 1, 24, [.nil], false⟩),
  (52, ⟨.struct [(0, 3), (1, 3), (2, 3), (3, 51)], 4, 48, [.d (.int .i64 0), .d (.int .i64 0), .d (.int .i64 0), .nil], false⟩),
  (53, ⟨.struct [(0, 3), (1, 3), (2, 3), (3, 51)], 4, 48, [.d (.int .i64 0), .d (.int .i64 0), .d (.int .i64 0), .nil], false⟩),
  (54, ⟨.slice 65, 1, 24, [.nil], false⟩),
  (56, ⟨.other, 1, 8, [.d .nilfn], false⟩),
  (57, ⟨.slice 5, 1, 24, [.nil], false⟩),
  (58, ⟨.struct [(0, 3), (1, 3), (2, 3), (3, 3), (4, 53)], 8, 80, [.d (.int .i64 0), .d (.int .i64 0), .d (.int .i64 0), .d (.int .i64 0), .d (.int .i64 0), .d (.int .i64 0), .d (.int .i64 0), .nil], false⟩),
  (59, ⟨.struct [(0, 3), (1, 3), (2, 3), (3, 3), (4, 53)], 8, 80, [.d (.int .i64 0), .d (.int .i64 0), .d (.int .i64 0), .d (.int .i64 0), .d (.int .i64 0), .d (.int .i64 0), .d (.int .i64 0), .nil], false⟩),
  (60, ⟨.slice 59, 1, 24, [.nil], false⟩),
  (61, ⟨.slice 60, 1, 24, [.nil], false⟩),
  (62, ⟨.slice 97, 1, 24, [.nil], false⟩),
  (63, ⟨.slice 67, 1, 24, [.nil], false⟩),
  (64, ⟨.struct [(0, 62), (1, 34), (2, 63)], 3, 72, [.nil, .nil, .nil], false⟩),
  (65, ⟨.struct [(0, 62), (1, 34), (2, 63)], 3, 72, [.nil, .nil, .nil], false⟩),
  (66, ⟨.struct [(0, 3), (1, 3), (2, 3)], 3, 24, [.d (.int .i64 0), .d (.int .i64 0), .d (.int .i64 0)], true⟩),
  (67, ⟨.struct [(0, 3), (1, 3), (2, 3)], 3, 24, [.d (.int .i64 0), .d (.int .i64 0), .d (.int .i64 0)], true⟩),
  (69, ⟨.other, 1, 8, [.d .nilfn], false⟩),
  (71, ⟨.other, 1, 8, [.d .nilfn], false⟩),
  (73, ⟨.other, 1, 8, [.d .nilfn], false⟩),
  (74, ⟨.other, 1, 8, [.d .nilfn], false⟩),
  (75, ⟨.other, 1, 8, [.d .nilfn], false⟩),
  (77, ⟨.other, 1, 8, [.d .nilfn], false⟩),
  (78, ⟨.other, 1, 8, [.d .nilfn], false⟩),
  (79, ⟨.other, 1, 8, [.d .nilfn], false⟩),
  (80, ⟨.other, 1, 8, [.d .nilfn], false⟩),
  (81, ⟨.slice 121, 1, 24, [.nil], false⟩),
  (82, ⟨.slice 125, 1, 24, [.nil], false⟩),
  (83, ⟨.struct [(0, 81), (1, 82)], 2, 48, [.nil, .nil], false⟩),
  (84, ⟨.struct [(0, 81), (1, 82)], 2, 48, [.nil, .nil], false⟩),
  (86, ⟨.other, 1, 8, [.d .nilfn], false⟩),
  (87, ⟨.slice 102, 1, 24, [.nil], false⟩),
  (88, ⟨.slice 159, 1, 24, [.nil], false⟩),
  (89, ⟨.struct [(0, 43), (2, 40), (3, 87), (4, 88), (5, 3)], 6, 112, [.d (.int .i64 0), .nil, .nil, .nil, .nil, .d (.int .i64 0)], false⟩),
  (90, ⟨.struct [(0, 43), (2, 40), (3, 87), (4, 88), (5, 3)], 6, 112, [.d (.int .i64 0), .nil, .nil, .nil, .nil, .d (.int .i64 0)], false⟩),
  (92, ⟨.other, 1, 8, [.d .nilfn], false⟩),
  (93, ⟨.other, 1, 8, [.d .nilfn], false⟩),
  (95, ⟨.other, 1, 8, [.d .nilfn], false⟩),
  (96, ⟨.struct [(0, 3), (1, 3), (2, 29)], 3, 24, [.d (.int .i64 0), .d (.int .i64 0), .d (.int .i64 0)], true⟩),
  (97, ⟨.struct [(0, 3), (1, 3), (2, 29)], 3, 24, [.d (.int .i64 0), .d (.int .i64 0), .d (.int .i64 0)], true⟩),
  (99, ⟨.other, 1, 8, [.d .nilfn], false⟩),
  (100, ⟨.slice 192, 1, 24, [.nil], false⟩),
  (101, ⟨.struct [(0, 22), (1, 26), (2, 34), (3, 100), (4, 63)], 5, 120, [.nil, .nil, .nil, .nil, .nil], false⟩),
  (102, ⟨.struct [(0, 22), (1, 26), (2, 34), (3, 100), (4, 63)], 5, 120, [.nil, .nil, .nil, .nil, .nil], false⟩),
  (103, ⟨.other, 1, 8, [.d .nilfn], false⟩),
  (104, ⟨.other, 1, 8, [.d .nilfn], false⟩),
  (105, ⟨.other, 1, 8, [.d .nilfn], false⟩),
  (106, ⟨.other, 1, 8, [.d .nilfn], false⟩),
  (107, ⟨.other, 1, 8, [.d .nilfn], false⟩),
  (108, ⟨.other, 1, 8, [.nilptr], false⟩),
  (109, ⟨.struct [(0, 40), (1, 34)], 2, 48, [.nil, .nil], false⟩),
  (110, ⟨.struct [(0, 40), (1, 34)], 2, 48, [.nil, .nil], false⟩),
  (111, ⟨.struct [(0, 3), (1, 3), (2, 3)], 3, 24, [.d (.int .i64 0), .d (.int .i64 0), .d (.int .i64 0)], true⟩),
  (112, ⟨.struct [(0, 3), (1, 3), (2, 3)], 3, 24, [.d (.int .i64 0), .d (.int .i64 0), .d (.int .i64 0)], true⟩),
  (113, ⟨.other, 1, 8, [.d .nilfn], false⟩),
  (114, ⟨.other, 1, 8, [.d .nilfn], false⟩),
  (115, ⟨.other, 1, 8, [.nilptr], false⟩),
  (116, ⟨.struct [(0, 57), (1, 3), (2, 29)], 3, 40, [.nil, .d (.int .i64 0), .d (.int .i64 0)], false⟩),
  (117, ⟨.struct [(0, 57), (1, 3), (2, 29)], 3, 40, [.nil, .d (.int .i64 0), .d (.int .i64 0)], false⟩),
  (118, ⟨.other, 1, 8, [.d .nilfn], false⟩),
  (119, ⟨.other, 1, 8, [.d .nilfn], false⟩),
  (120, ⟨.struct [(0, 24), (2, 22)], 3, 40, [.d (.int .i64 0), .d (.int .i64 0), .nil], false⟩),
  (121, ⟨.struct [(0, 24), (2, 22)], 3, 40, [.d (.int .i64 0), .d (.int .i64 0), .nil], false⟩),
  (122, ⟨.other, 1, 8, [.d .nilfn], false⟩),
  (123, ⟨.other, 1, 8, [.d .nilfn], false⟩),
  (124, ⟨.struct [(0, 3), (1, 3), (2, 3)], 3, 24, [.d (.int .i64 0), .d (.int .i64 0), .d (.int .i64 0)], true⟩),
  (125, ⟨.struct [(0, 3), (1, 3), (2, 3)], 3, 24, [.d (.int .i64 0), .d (.int .i64 0), .d (.int .i64 0)], true⟩),
  (126, ⟨.other, 1, 8, [.d .nilfn], false⟩),
  (127, ⟨.other, 1, 8, [.d .nilfn], false⟩),
  (129, ⟨.other, 1, 8, [.d .nilfn], false⟩),
  (131, ⟨.other, 1, 8, [.d .nilfn], false⟩),
  (132, ⟨.other, 1, 8, [.d .nilfn], false⟩),
  (134, ⟨.other, 1, 8, [.d .nilfn], false⟩),
  (135, ⟨.other, 1, 8, [.d .nilfn], false⟩),
  (136, ⟨.other, 1, 8, [.d .nilfn], false⟩),
  (138, ⟨.other, 1, 8, [.d .nilfn], false⟩),
  (139, ⟨.other, 1, 8, [.d .nilfn], false⟩),
  (140, ⟨.other, 1, 8, [.d .nilfn], false⟩),
  (141, ⟨.struct [(0, 3), (1, 3), (2, 3)], 3, 24, [.d (.int .i64 0), .d (.int .i64 0), .d (.int .i64 0)], true⟩),
  (142, ⟨.struct [(0, 3), (1, 3), (2, 3)], 3, 24, [.d (.int .i64 0), .d (.int .i64 0), .d (.int .i64 0)], true⟩),
  (143, ⟨.other, 1, 8, [.d .nilfn], false⟩),
  (144, ⟨.other, 1, 8, [.d .nilfn], false⟩),
  (145, ⟨.other, 1, 8, [.d .nilfn], false⟩),
  (146, ⟨.other, 1, 8, [.d .nilfn], false⟩),
  (147, ⟨.other, 1, 8, [.d .nilfn], false⟩),
  (148, ⟨.other, 1, 8, [.d .nilfn], false⟩),
  (149, ⟨.other, 1, 8, [.d .nilfn], false⟩),
  (150, ⟨.other, 1, 8, [.d .nilfn], false⟩),
  (151, ⟨.other, 1, 8, [.d .nilfn], false⟩),
  (152, ⟨.other, 1, 8, [.d .nilfn], false⟩),
  (153, ⟨.other, 1, 8, [.d .nilfn], false⟩),
  (154, ⟨.struct [(0, 34), (1, 3), (2, 3)], 3, 40, [.nil, .d (.int .i64 0), .d (.int .i64 0)], false⟩),
  (155, ⟨.struct [(0, 34), (1, 3), (2, 3)], 3, 40, [.nil, .d (.int .i64 0), .d (.int .i64 0)], false⟩),
  (157, ⟨.other, 1, 8, [.d .nilfn], false⟩),
  (158, ⟨.struct [(0, 125), (3, 155), (6, 155)], 9, 104, [.d (.int .i64 0), .d (.int .i64 0), .d (.int .i64 0), .nil, .d (.int .i64 0), .d (.int .i64 0), .nil, .d (.int .i64 0), .d (.int .i64 0)], false⟩),
  (159, ⟨.struct [(0, 125), (3, 155), (6, 155)], 9, 104, [.d (.int .i64 0), .d (.int .i64 0), .d (.int .i64 0), .nil, .d (.int .i64 0), .d (.int .i64 0), .nil, .d (.int .i64 0), .d (.int .i64 0)], false⟩),
  (160, ⟨.other, 1, 8, [.d .nilfn], false⟩),
  (161, ⟨.other, 1, 8, [.d .nilfn], false⟩),
  (162, ⟨.other, 1, 8, [.d .nilfn], false⟩),
  (163, ⟨.other, 1, 8, [.d .nilfn], false⟩),
  (164, ⟨.other, 1, 8, [.d .nilfn], false⟩),
  (165, ⟨.other, 1, 8, [.d .nilfn], false⟩),
  (166, ⟨.other, 1, 8, [.d .nilfn], false⟩),
  (167, ⟨.other, 1, 8, [.d .nilfn], false⟩),
  (168, ⟨.other, 1, 8, [.d .nilfn], false⟩),
  (170, ⟨.other, 1, 8, [.d .nilfn], false⟩),
  (172, ⟨.other, 1, 8, [.d .nilfn], false⟩),
  (173, ⟨.other, 1, 8, [.d .nilfn], false⟩),
  (174, ⟨.other, 1, 8, [.d .nilfn], false⟩),
  (175, ⟨.other, 1, 8, [.nilptr], false⟩),
  (176, ⟨.other, 1, 8, [.d .nilfn], false⟩),
  (177, ⟨.struct [(0, 63), (1, 3)], 2, 32, [.nil, .d (.int .i64 0)], false⟩),
  (178, ⟨.struct [(0, 63), (1, 3)], 2, 32, [.nil, .d (.int .i64 0)], false⟩),
  (179, ⟨.struct [(0, 178), (2, 102)], 7, 152, [.nil, .d (.int .i64 0), .nil, .nil, .nil, .nil, .nil], false⟩),
  (180, ⟨.struct [(0, 178), (2, 102)], 7, 152, [.nil, .d (.int .i64 0), .nil, .nil, .nil, .nil, .nil], false⟩),
  (181, ⟨.other, 1, 8, [.d .nilfn], false⟩),
  (182, ⟨.other, 1, 8, [.d .nilfn], false⟩),
  (183, ⟨.other, 1, 8, [.d .nilfn], false⟩),
  (184, ⟨.other, 1, 8, [.d .nilfn], false⟩),
  (185, ⟨.slice 149, 1, 24, [.nil], false⟩),
  (186, ⟨.other, 1, 8, [.d .nilfn], false⟩),
  (187, ⟨.other, 1, 8, [.d .nilfn], false⟩),
  (188, ⟨.other, 1, 8, [.d .nilfn], false⟩),
  (189, ⟨.other, 1, 8, [.d .nilfn], false⟩),
  (190, ⟨.other, 1, 8, [.d .nilfn], false⟩),
  (191, ⟨.struct [(0, 3), (1, 3), (2, 3), (3, 3), (4, 3), (5, 4)], 6, 48, [.d (.int .i64 0), .d (.int .i64 0), .d (.int .i64 0), .d (.int .i64 0), .d (.int .i64 0), .d (.bool false)], true⟩),
  (192, ⟨.struct [(0, 3), (1, 3), (2, 3), (3, 3), (4, 3), (5, 4)], 6, 48, [.d (.int .i64 0), .d (.int .i64 0), .d (.int .i64 0), .d (.int .i64 0), .d (.int .i64 0), .d (.bool false)], true⟩),
  (193, ⟨.other, 1, 8, [.d .nilfn], false⟩),
  (194, ⟨.other, 1, 8, [.d .nilfn], false⟩),
  (195, ⟨.other, 1, 8, [.d .nilfn], false⟩),
  (196, ⟨.other, 1, 8, [.d .nilfn], false⟩),
  (198, ⟨.other, 1, 8, [.d .nilfn], false⟩),
  (199, ⟨.other, 1, 8, [.d .nilfn], false⟩),
  (200, ⟨.other, 1, 8, [.d .nilfn], false⟩),
  (201, ⟨.other, 1, 8, [.d .nilfn], false⟩),
  (202, ⟨.other, 1, 8, [.d .nilfn], false⟩),
  (203, ⟨.other, 1, 8, [.d .nilfn], false⟩),
  (204, ⟨.other, 1, 8, [.d .nilfn], false⟩),
  (205, ⟨.other, 1, 8, [.d .nilfn], false⟩),
  (206, ⟨.other, 1, 8, [.d .nilfn], false⟩),
  (207, ⟨.other, 1, 8, [.nilptr], false⟩),
  (208, ⟨.other, 1, 8, [.d .nilfn], false⟩),
  (209, ⟨.other, 1, 8, [.d .nilfn], false⟩),
  (210, ⟨.other, 1, 8, [.d .nilfn], false⟩),
  (211, ⟨.other, 1, 8, [.d .nilfn], false⟩),
  (212, ⟨.other, 1, 8, [.d .nilfn], false⟩),
  (213, ⟨.other, 1, 8, [.d .nilfn], false⟩),
  (214, ⟨.other, 1, 8, [.d .nilfn], false⟩),
  (215, ⟨.other, 1, 8, [.d .nilfn], false⟩),
  (216, ⟨.other, 1, 8, [.d .nilfn], false⟩),
  (217, ⟨.other, 1, 8, [.d .nilfn], false⟩),
  (218, ⟨.other, 1, 8, [.d .nilfn], false⟩),
  (219, ⟨.other, 1, 8, [.d .nilfn], false⟩),
  (220, ⟨.other, 1, 8, [.d .nilfn], false⟩),
  (221, ⟨.other, 1, 8, [.d .nilfn], false⟩),
  (222, ⟨.other, 1, 8, [.d .nilfn], false⟩),
  (228, ⟨.int .u32, 1, 4, [.d (.int .u32 0)], false⟩),
  (232, ⟨.other, 1, 8, [.nilptr], false⟩)]
def T : TypeId → Option TI := fun t => assoc tl t
theorem T1 : T 1 = some ⟨.other, 1, 8, [.d .nilfn], false⟩ := rfl
theorem T2 : T 2 = some ⟨.int .i64, 1, 8, [.d (.int .i64 0)], false⟩ := rfl
theorem T3 : T 3 = some ⟨.int .i64, 1, 8, [.d (.int .i64 0)], false⟩ := rfl
theorem T4 : T 4 = some ⟨.bool, 1, 1, [.d (.bool false)], false⟩ := rfl
theorem T5 : T 5 = some ⟨.int .u8, 1, 1, [.d (.int .u8 0)], false⟩ := rfl
theorem T9 : T 9 = some ⟨.str, 1, 16, [.d (.str ⟨#[]⟩)], false⟩ := rfl
theorem T12 : T 12 = some ⟨.int .u64, 1, 8, [.d (.int .u64 0)], false⟩ := rfl
theorem T21 : T 21 = some ⟨.int .i32, 1, 4, [.d (.int .i32 0)], false⟩ := rfl
theorem T22 : T 22 = some ⟨.slice 53, 1, 24, [.nil], false⟩ := rfl
theorem T23 : T 23 = some ⟨.struct [(0, 3), (1, 3)], 2, 16, [.d (.int .i64 0), .d (.int .i64 0)], true⟩ := rfl
theorem T24 : T 24 = some ⟨.struct [(0, 3), (1, 3)], 2, 16, [.d (.int .i64 0), .d (.int .i64 0)], true⟩ := rfl
theorem T25 : T 25 = some ⟨.slice 34, 1, 24, [.nil], false⟩ := rfl
theorem T26 : T 26 = some ⟨.slice 4, 1, 24, [.nil], false⟩ := rfl
theorem T27 : T 27 = some ⟨.other, 1, 8, [.d .nilfn], false⟩ := rfl
theorem T28 : T 28 = some ⟨.other, 1, 8, [.d .nilfn], false⟩ := rfl
theorem T29 : T 29 = some ⟨.int .i64, 1, 8, [.d (.int .i64 0)], false⟩ := rfl
theorem T31 : T 31 = some ⟨.other, 1, 8, [.d .nilfn], false⟩ := rfl
theorem T33 : T 33 = some ⟨.other, 1, 8, [.d .nilfn], false⟩ := rfl
theorem T34 : T 34 = some ⟨.slice 3, 1, 24, [.nil], false⟩ := rfl
theorem T35 : T 35 = some ⟨.other, 1, 8, [.d .nilfn], false⟩ := rfl
theorem T36 : T 36 = some ⟨.other, 1, 8, [.d .nilfn], false⟩ := rfl
theorem T38 : T 38 = some ⟨.other, 1, 8, [.d .nilfn], false⟩ := rfl
theorem T39 : T 39 = some ⟨.other, 1, 8, [.d .nilfn], false⟩ := rfl
theorem T40 : T 40 = some ⟨.slice 24, 1, 24, [.nil], false⟩ := rfl
theorem T41 : T 41 = some ⟨.slice 112, 1, 24, [.nil], false⟩ := rfl
theorem T42 : T 42 = some ⟨.struct [(0, 3), (1, 41)], 2, 32, [.d (.int .i64 0), .nil], false⟩ := rfl
theorem T43 : T 43 = some ⟨.struct [(0, 3), (1, 41)], 2, 32, [.d (.int .i64 0), .nil], false⟩ := rfl
theorem T45 : T 45 = some ⟨.other, 1, 8, [.d .nilfn], false⟩ := rfl
theorem T47 : T 47 = some ⟨.other, 1, 8, [.d .nilfn], false⟩ := rfl
theorem T48 : T 48 = some ⟨.other, 1, 8, [.d .nilfn], false⟩ := rfl
theorem T49 : T 49 = some ⟨.other, 1, 8, [.d .nilfn], false⟩ := rfl
theorem T50 : T 50 = some ⟨.other, 1, 8, [.d .nilfn], false⟩ := rfl
theorem T51 : T 51 = some ⟨.slice 142, 1, 24, [.nil], false⟩ := rfl
theorem T52 : T 52 = some ⟨.struct [(0, 3), (1, 3), (2, 3), (3, 51)], 4, 48, [.d (.int .i64 0), .d (.int .i64 0), .d (.int .i64 0), .nil], false⟩ := rfl
theorem T53 : T 53 = some ⟨.struct [(0, 3), (1, 3), (2, 3), (3, 51)], 4, 48, [.d (.int .i64 0), .d (.int .i64 0), .d (.int .i64 0), .nil], false⟩ := rfl
theorem T54 : T 54 = some ⟨.slice 65, 1, 24, [.nil], false⟩ := rfl
theorem T56 : T 56 = some ⟨.other, 1, 8, [.d .nilfn], false⟩ := rfl
theorem T57 : T 57 = some ⟨.slice 5, 1, 24, [.nil], false⟩ := rfl
theorem T58 : T 58 = some ⟨.struct [(0, 3), (1, 3), (2, 3), (3, 3), (4, 53)], 8, 80, [.d (.int .i64 0), .d (.int .i64 0), .d (.int .i64 0), .d (.int .i64 0), .d (.int .i64 0), .d (.int .i64 0), .d (.int .i64 0), .nil], false⟩ := rfl
theorem T59 : T 59 = some ⟨.struct [(0, 3), (1, 3), (2, 3), (3, 3), (4, 53)], 8, 80, [.d (.int .i64 0), .d (.int .i64 0), .d (.int .i64 0), .d (.int .i64 0), .d (.int .i64 0), .d (.int .i64 0), .d (.int .i64 0), .nil], false⟩ := rfl
theorem T60 : T 60 = some ⟨.slice 59, 1, 24, [.nil], false⟩ := rfl
theorem T61 : T 61 = some ⟨.slice 60, 1, 24, [.nil], false⟩ := rfl
theorem T62 : T 62 = some ⟨.slice 97, 1, 24, [.nil], false⟩ := rfl
theorem T63 : T 63 = some ⟨.slice 67, 1, 24, [.nil], false⟩ := rfl
theorem T64 : T 64 = some ⟨.struct [(0, 62), (1, 34), (2, 63)], 3, 72, [.nil, .nil, .nil], false⟩ := rfl
theorem T65 : T 65 = some ⟨.struct [(0, 62), (1, 34), (2, 63)], 3, 72, [.nil, .nil, .nil], false⟩ := rfl
theorem T66 : T 66 = some ⟨.struct [(0, 3), (1, 3), (2, 3)], 3, 24, [.d (.int .i64 0), .d (.int .i64 0), .d (.int .i64 0)], true⟩ := rfl
theorem T67 : T 67 = some ⟨.struct [(0, 3), (1, 3), (2, 3)], 3, 24, [.d (.int .i64 0), .d (.int .i64 0), .d (.int .i64 0)], true⟩ := rfl
theorem T69 : T 69 = some ⟨.other, 1, 8, [.d .nilfn], false⟩ := rfl
theorem T71 : T 71 = some ⟨.other, 1, 8, [.d .nilfn], false⟩ := rfl
theorem T73 : T 73 = some ⟨.other, 1, 8, [.d .nilfn], false⟩ := rfl
theorem T74 : T 74 = some ⟨.other, 1, 8, [.d .nilfn], false⟩ := rfl
theorem T75 : T 75 = some ⟨.other, 1, 8, [.d .nilfn], false⟩ := rfl
theorem T77 : T 77 = some ⟨.other, 1, 8, [.d .nilfn], false⟩ := rfl
theorem T78 : T 78 = some ⟨.other, 1, 8, [.d .nilfn], false⟩ := rfl
theorem T79 : T 79 = some ⟨.other, 1, 8, [.d .nilfn], false⟩ := rfl
theorem T80 : T 80 = some ⟨.other, 1, 8, [.d .nilfn], false⟩ := rfl
theorem T81 : T 81 = some ⟨.slice 121, 1, 24, [.nil], false⟩ := rfl
theorem T82 : T 82 = some ⟨.slice 125, 1, 24, [.nil], false⟩ := rfl
theorem T83 : T 83 = some ⟨.struct [(0, 81), (1, 82)], 2, 48, [.nil, .nil], false⟩ := rfl
theorem T84 : T 84 = some ⟨.struct [(0, 81), (1, 82)], 2, 48, [.nil, .nil], false⟩ := rfl
theorem T86 : T 86 = some ⟨.other, 1, 8, [.d .nilfn], false⟩ := rfl
theorem T87 : T 87 = some ⟨.slice 102, 1, 24, [.nil], false⟩ := rfl
theorem T88 : T 88 = some ⟨.slice 159, 1, 24, [.nil], false⟩ := rfl
theorem T89 : T 89 = some ⟨.struct [(0, 43), (2, 40), (3, 87), (4, 88), (5, 3)], 6, 112, [.d (.int .i64 0), .nil, .nil, .nil, .nil, .d (.int .i64 0)], false⟩ := rfl
theorem T90 : T 90 = some ⟨.struct [(0, 43), (2, 40), (3, 87), (4, 88), (5, 3)], 6, 112, [.d (.int .i64 0), .nil, .nil, .nil, .nil, .d (.int .i64 0)], false⟩ := rfl
theorem T92 : T 92 = some ⟨.other, 1, 8, [.d .nilfn], false⟩ := rfl
theorem T93 : T 93 = some ⟨.other, 1, 8, [.d .nilfn], false⟩ := rfl
theorem T95 : T 95 = some ⟨.other, 1, 8, [.d .nilfn], false⟩ := rfl
theorem T96 : T 96 = some ⟨.struct [(0, 3), (1, 3), (2, 29)], 3, 24, [.d (.int .i64 0), .d (.int .i64 0), .d (.int .i64 0)], true⟩ := rfl
theorem T97 : T 97 = some ⟨.struct [(0, 3), (1, 3), (2, 29)], 3, 24, [.d (.int .i64 0), .d (.int .i64 0), .d (.int .i64 0)], true⟩ := rfl
theorem T99 : T 99 = some ⟨.other, 1, 8, [.d .nilfn], false⟩ := rfl
theorem T100 : T 100 = some ⟨.slice 192, 1, 24, [.nil], false⟩ := rfl
theorem T101 : T 101 = some ⟨.struct [(0, 22), (1, 26), (2, 34), (3, 100), (4, 63)], 5, 120, [.nil, .nil, .nil, .nil, .nil], false⟩ := rfl
theorem T102 : T 102 = some ⟨.struct [(0, 22), (1, 26), (2, 34), (3, 100), (4, 63)], 5, 120, [.nil, .nil, .nil, .nil, .nil], false⟩ := rfl
theorem T103 : T 103 = some ⟨.other, 1, 8, [.d .nilfn], false⟩ := rfl
theorem T104 : T 104 = some ⟨.other, 1, 8, [.d .nilfn], false⟩ := rfl
theorem T105 : T 105 = some ⟨.other, 1, 8, [.d .nilfn], false⟩ := rfl
theorem T106 : T 106 = some ⟨.other, 1, 8, [.d .nilfn], false⟩ := rfl
theorem T107 : T 107 = some ⟨.other, 1, 8, [.d .nilfn], false⟩ := rfl
theorem T108 : T 108 = some ⟨.other, 1, 8, [.nilptr], false⟩ := rfl
theorem T109 : T 109 = some ⟨.struct [(0, 40), (1, 34)], 2, 48, [.nil, .nil], false⟩ := rfl
theorem T110 : T 110 = some ⟨.struct [(0, 40), (1, 34)], 2, 48, [.nil, .nil], false⟩ := rfl
theorem T111 : T 111 = some ⟨.struct [(0, 3), (1, 3), (2, 3)], 3, 24, [.d (.int .i64 0), .d (.int .i64 0), .d (.int .i64 0)], true⟩ := rfl
theorem T112 : T 112 = some ⟨.struct [(0, 3), (1, 3), (2, 3)], 3, 24, [.d (.int .i64 0), .d (.int .i64 0), .d (.int .i64 0)], true⟩ := rfl
theorem T113 : T 113 = some ⟨.other, 1, 8, [.d .nilfn], false⟩ := rfl
theorem T114 : T 114 = some ⟨.other, 1, 8, [.d .nilfn], false⟩ := rfl
theorem T115 : T 115 = some ⟨.other, 1, 8, [.nilptr], false⟩ := rfl
theorem T116 : T 116 = some ⟨.struct [(0, 57), (1, 3), (2, 29)], 3, 40, [.nil, .d (.int .i64 0), .d (.int .i64 0)], false⟩ := rfl
theorem T117 : T 117 = some ⟨.struct [(0, 57), (1, 3), (2, 29)], 3, 40, [.nil, .d (.int .i64 0), .d (.int .i64 0)], false⟩ := rfl
theorem T118 : T 118 = some ⟨.other, 1, 8, [.d .nilfn], false⟩ := rfl
theorem T119 : T 119 = some ⟨.other, 1, 8, [.d .nilfn], false⟩ := rfl
theorem T120 : T 120 = some ⟨.struct [(0, 24), (2, 22)], 3, 40, [.d (.int .i64 0), .d (.int .i64 0), .nil], false⟩ := rfl
theorem T121 : T 121 = some ⟨.struct [(0, 24), (2, 22)], 3, 40, [.d (.int .i64 0), .d (.int .i64 0), .nil], false⟩ := rfl
theorem T122 : T 122 = some ⟨.other, 1, 8, [.d .nilfn], false⟩ := rfl
theorem T123 : T 123 = some ⟨.other, 1, 8, [.d .nilfn], false⟩ := rfl
theorem T124 : T 124 = some ⟨.struct [(0, 3), (1, 3), (2, 3)], 3, 24, [.d (.int .i64 0), .d (.int .i64 0), .d (.int .i64 0)], true⟩ := rfl
theorem T125 : T 125 = some ⟨.struct [(0, 3), (1, 3), (2, 3)], 3, 24, [.d (.int .i64 0), .d (.int .i64 0), .d (.int .i64 0)], true⟩ := rfl
theorem T126 : T 126 = some ⟨.other, 1, 8, [.d .nilfn], false⟩ := rfl
theorem T127 : T 127 = some ⟨.other, 1, 8, [.d .nilfn], false⟩ := rfl
theorem T129 : T 129 = some ⟨.other, 1, 8, [.d .nilfn], false⟩ := rfl
theorem T131 : T 131 = some ⟨.other, 1, 8, [.d .nilfn], false⟩ := rfl
theorem T132 : T 132 = some ⟨.other, 1, 8, [.d .nilfn], false⟩ := rfl
theorem T134 : T 134 = some ⟨.other, 1, 8, [.d .nilfn], false⟩ := rfl
theorem T135 : T 135 = some ⟨.other, 1, 8, [.d .nilfn], false⟩ := rfl
theorem T136 : T 136 = some ⟨.other, 1, 8, [.d .nilfn], false⟩ := rfl
theorem T138 : T 138 = some ⟨.other, 1, 8, [.d .nilfn], false⟩ := rfl
theorem T139 : T 139 = some ⟨.other, 1, 8, [.d .nilfn], false⟩ := rfl
theorem T140 : T 140 = some ⟨.other, 1, 8, [.d .nilfn], false⟩ := rfl
theorem T141 : T 141 = some ⟨.struct [(0, 3), (1, 3), (2, 3)], 3, 24, [.d (.int .i64 0), .d (.int .i64 0), .d (.int .i64 0)], true⟩ := rfl
theorem T142 : T 142 = some ⟨.struct [(0, 3), (1, 3), (2, 3)], 3, 24, [.d (.int .i64 0), .d (.int .i64 0), .d (.int .i64 0)], true⟩ := rfl
theorem T143 : T 143 = some ⟨.other, 1, 8, [.d .nilfn], false⟩ := rfl
theorem T144 : T 144 = some ⟨.other, 1, 8, [.d .nilfn], false⟩ := rfl
theorem T145 : T 145 = some ⟨.other, 1, 8, [.d .nilfn], false⟩ := rfl
theorem T146 : T 146 = some ⟨.other, 1, 8, [.d .nilfn], false⟩ := rfl
theorem T147 : T 147 = some ⟨.other, 1, 8, [.d .nilfn], false⟩ := rfl
theorem T148 : T 148 = some ⟨.other, 1, 8, [.d .nilfn], false⟩ := rfl
theorem T149 : T 149 = some ⟨.other, 1, 8, [.d .nilfn], false⟩ := rfl
theorem T150 : T 150 = some ⟨.other, 1, 8, [.d .nilfn], false⟩ := rfl
theorem T151 : T 151 = some ⟨.other, 1, 8, [.d .nilfn], false⟩ := rfl
theorem T152 : T 152 = some ⟨.other, 1, 8, [.d .nilfn], false⟩ := rfl
theorem T153 : T 153 = some ⟨.other, 1, 8, [.d .nilfn], false⟩ := rfl
theorem T154 : T 154 = some ⟨.struct [(0, 34), (1, 3), (2, 3)], 3, 40, [.nil, .d (.int .i64 0), .d (.int .i64 0)], false⟩ := rfl
theorem T155 : T 155 = some ⟨.struct [(0, 34), (1, 3), (2, 3)], 3, 40, [.nil, .d (.int .i64 0), .d (.int .i64 0)], false⟩ := rfl
theorem T157 : T 157 = some ⟨.other, 1, 8, [.d .nilfn], false⟩ := rfl
theorem T158 : T 158 = some ⟨.struct [(0, 125), (3, 155), (6, 155)], 9, 104, [.d (.int .i64 0), .d (.int .i64 0), .d (.int .i64 0), .nil, .d (.int .i64 0), .d (.int .i64 0), .nil, .d (.int .i64 0), .d (.int .i64 0)], false⟩ := rfl
theorem T159 : T 159 = some ⟨.struct [(0, 125), (3, 155), (6, 155)], 9, 104, [.d (.int .i64 0), .d (.int .i64 0), .d (.int .i64 0), .nil, .d (.int .i64 0), .d (.int .i64 0), .nil, .d (.int .i64 0), .d (.int .i64 0)], false⟩ := rfl
theorem T160 : T 160 = some ⟨.other, 1, 8, [.d .nilfn], false⟩ := rfl
theorem T161 : T 161 = some ⟨.other, 1, 8, [.d .nilfn], false⟩ := rfl
theorem T162 : T 162 = some ⟨.other, 1, 8, [.d .nilfn], false⟩ := rfl
theorem T163 : T 163 = some ⟨.other, 1, 8, [.d .nilfn], false⟩ := rfl
theorem T164 : T 164 = some ⟨.other, 1, 8, [.d .nilfn], false⟩ := rfl
theorem T165 : T 165 = some ⟨.other, 1, 8, [.d .nilfn], false⟩ := rfl
theorem T166 : T 166 = some ⟨.other, 1, 8, [.d .nilfn], false⟩ := rfl
theorem T167 : T 167 = some ⟨.other, 1, 8, [.d .nilfn], false⟩ := rfl
theorem T168 : T 168 = some ⟨.other, 1, 8, [.d .nilfn], false⟩ := rfl
theorem T170 : T 170 = some ⟨.other, 1, 8, [.d .nilfn], false⟩ := rfl
theorem T172 : T 172 = some ⟨.other, 1, 8, [.d .nilfn], false⟩ := rfl
theorem T173 : T 173 = some ⟨.other, 1, 8, [.d .nilfn], false⟩ := rfl
theorem T174 : T 174 = some ⟨.other, 1, 8, [.d .nilfn], false⟩ := rfl
theorem T175 : T 175 = some ⟨.other, 1, 8, [.nilptr], false⟩ := rfl
theorem T176 : T 176 = some ⟨.other, 1, 8, [.d .nilfn], false⟩ := rfl
theorem T177 : T 177 = some ⟨.struct [(0, 63), (1, 3)], 2, 32, [.nil, .d (.int .i64 0)], false⟩ := rfl
theorem T178 : T 178 = some ⟨.struct [(0, 63), (1, 3)], 2, 32, [.nil, .d (.int .i64 0)], false⟩ := rfl
theorem T179 : T 179 = some ⟨.struct [(0, 178), (2, 102)], 7, 152, [.nil, .d (.int .i64 0), .nil, .nil, .nil, .nil, .nil], false⟩ := rfl
theorem T180 : T 180 = some ⟨.struct [(0, 178), (2, 102)], 7, 152, [.nil, .d (.int .i64 0), .nil, .nil, .nil, .nil, .nil], false⟩ := rfl
theorem T181 : T 181 = some ⟨.other, 1, 8, [.d .nilfn], false⟩ := rfl
theorem T182 : T 182 = some ⟨.other, 1, 8, [.d .nilfn], false⟩ := rfl
theorem T183 : T 183 = some ⟨.other, 1, 8, [.d .nilfn], false⟩ := rfl
theorem T184 : T 184 = some ⟨.other, 1, 8, [.d .nilfn], false⟩ := rfl
theorem T185 : T 185 = some ⟨.slice 149, 1, 24, [.nil], false⟩ := rfl
theorem T186 : T 186 = some ⟨.other, 1, 8, [.d .nilfn], false⟩ := rfl
theorem T187 : T 187 = some ⟨.other, 1, 8, [.d .nilfn], false⟩ := rfl
theorem T188 : T 188 = some ⟨.other, 1, 8, [.d .nilfn], false⟩ := rfl
theorem T189 : T 189 = some ⟨.other, 1, 8, [.d .nilfn], false⟩ := rfl
theorem T190 : T 190 = some ⟨.other, 1, 8, [.d .nilfn], false⟩ := rfl
theorem T191 : T 191 = some ⟨.struct [(0, 3), (1, 3), (2, 3), (3, 3), (4, 3), (5, 4)], 6, 48, [.d (.int .i64 0), .d (.int .i64 0), .d (.int .i64 0), .d (.int .i64 0), .d (.int .i64 0), .d (.bool false)], true⟩ := rfl
theorem T192 : T 192 = some ⟨.struct [(0, 3), (1, 3), (2, 3), (3, 3), (4, 3), (5, 4)], 6, 48, [.d (.int .i64 0), .d (.int .i64 0), .d (.int .i64 0), .d (.int .i64 0), .d (.int .i64 0), .d (.bool false)], true⟩ := rfl
theorem T193 : T 193 = some ⟨.other, 1, 8, [.d .nilfn], false⟩ := rfl
theorem T194 : T 194 = some ⟨.other, 1, 8, [.d .nilfn], false⟩ := rfl
theorem T195 : T 195 = some ⟨.other, 1, 8, [.d .nilfn], false⟩ := rfl
theorem T196 : T 196 = some ⟨.other, 1, 8, [.d .nilfn], false⟩ := rfl
theorem T198 : T 198 = some ⟨.other, 1, 8, [.d .nilfn], false⟩ := rfl
theorem T199 : T 199 = some ⟨.other, 1, 8, [.d .nilfn], false⟩ := rfl
theorem T200 : T 200 = some ⟨.other, 1, 8, [.d .nilfn], false⟩ := rfl
theorem T201 : T 201 = some ⟨.other, 1, 8, [.d .nilfn], false⟩ := rfl
theorem T202 : T 202 = some ⟨.other, 1, 8, [.d .nilfn], false⟩ := rfl
theorem T203 : T 203 = some ⟨.other, 1, 8, [.d .nilfn], false⟩ := rfl
theorem T204 : T 204 = some ⟨.other, 1, 8, [.d .nilfn], false⟩ := rfl
theorem T205 : T 205 = some ⟨.other, 1, 8, [.d .nilfn], false⟩ := rfl
theorem T206 : T 206 = some ⟨.other, 1, 8, [.d .nilfn], false⟩ := rfl
theorem T207 : T 207 = some ⟨.other, 1, 8, [.nilptr], false⟩ := rfl
theorem T208 : T 208 = some ⟨.other, 1, 8, [.d .nilfn], false⟩ := rfl
theorem T209 : T 209 = some ⟨.other, 1, 8, [.d .nilfn], false⟩ := rfl
theorem T210 : T 210 = some ⟨.other, 1, 8, [.d .nilfn], false⟩ := rfl
theorem T211 : T 211 = some ⟨.other, 1, 8, [.d .nilfn], false⟩ := rfl
theorem T212 : T 212 = some ⟨.other, 1, 8, [.d .nilfn], false⟩ := rfl
theorem T213 : T 213 = some ⟨.other, 1, 8, [.d .nilfn], false⟩ := rfl
theorem T214 : T 214 = some ⟨.other, 1, 8, [.d .nilfn], false⟩ := rfl
theorem T215 : T 215 = some ⟨.other, 1, 8, [.d .nilfn], false⟩ := rfl
theorem T216 : T 216 = some ⟨.other, 1, 8, [.d .nilfn], false⟩ := rfl
theorem T217 : T 217 = some ⟨.other, 1, 8, [.d .nilfn], false⟩ := rfl
theorem T218 : T 218 = some ⟨.other, 1, 8, [.d .nilfn], false⟩ := rfl
theorem T219 : T 219 = some ⟨.other, 1, 8, [.d .nilfn], false⟩ := rfl
theorem T220 : T 220 = some ⟨.other, 1, 8, [.d .nilfn], false⟩ := rfl
theorem T221 : T 221 = some ⟨.other, 1, 8, [.d .nilfn], false⟩ := rfl
theorem T222 : T 222 = some ⟨.other, 1, 8, [.d .nilfn], false⟩ := rfl
theorem T228 : T 228 = some ⟨.int .u32, 1, 4, [.d (.int .u32 0)], false⟩ := rfl
theorem T232 : T 232 = some ⟨.other, 1, 8, [.nilptr], false⟩ := rfl
def cV : LV → Value
  | .d (.int k n) => .int k n
  | .d (.bool b) => .bool b
  | .d (.str s) => .string s
  | .nil => .slice none 0 0
  | .nilptr => .pointer none
  | _ => .nilFunc
def zV (i : TI) : Value := match i.k with | .struct _ => .agg (i.zero.map cV).toArray | _ => cV (i.zero.headD .nil)
theorem oT {t : TypeId} {i : TI} {d : TypeDesc} (hd : Tryz.prog.underlying t = some d) (hk : DescOk d i.k) (hi : (Tryz.prog.info? t).map (fun j => (j.zero, j.size, j.bytes)) = some (some (zV i), i.size, i.bytes))
    (hz : (zV i).cells.toList.map constL = i.zero) (hs : (zV i).cells.size = i.size) (h1 : (zV i).cells.toList.all (·.oneCell') = true) : TIok Tryz.prog t i := TIok.of (zV i) hd hk hi hz hs h1
theorem eq23 : EqTells Tryz.prog 23 [some .i64, some .i64] := eqTells_of (F := _) Tryz.underlying23 (by kernel_rfl) (by kernel_rfl) (fun i f h => by
  rcases i with _ | i
  · cases h; exact ⟨by decide, rfl, _, rfl, Tryz.underlying3⟩
  rcases i with _ | i
  · cases h; exact ⟨by decide, rfl, _, rfl, Tryz.underlying3⟩
  simp at h) rfl
theorem eq24 : EqTells Tryz.prog 24 [some .i64, some .i64] := eqTells_of (F := _) Tryz.underlying24 (by kernel_rfl) (by kernel_rfl) (fun i f h => by
  rcases i with _ | i
  · cases h; exact ⟨by decide, rfl, _, rfl, Tryz.underlying3⟩
  rcases i with _ | i
  · cases h; exact ⟨by decide, rfl, _, rfl, Tryz.underlying3⟩
  simp at h) rfl
theorem eq66 : EqTells Tryz.prog 66 [some .i64, some .i64, some .i64] := eqTells_of (F := _) Tryz.underlying66 (by kernel_rfl) (by kernel_rfl) (fun i f h => by
  rcases i with _ | i
  · cases h; exact ⟨by decide, rfl, _, rfl, Tryz.underlying3⟩
  rcases i with _ | i
  · cases h; exact ⟨by decide, rfl, _, rfl, Tryz.underlying3⟩
  rcases i with _ | i
  · cases h; exact ⟨by decide, rfl, _, rfl, Tryz.underlying3⟩
  simp at h) rfl
theorem eq67 : EqTells Tryz.prog 67 [some .i64, some .i64, some .i64] := eqTells_of (F := _) Tryz.underlying67 (by kernel_rfl) (by kernel_rfl) (fun i f h => by
  rcases i with _ | i
  · cases h; exact ⟨by decide, rfl, _, rfl, Tryz.underlying3⟩
  rcases i with _ | i
  · cases h; exact ⟨by decide, rfl, _, rfl, Tryz.underlying3⟩
  rcases i with _ | i
  · cases h; exact ⟨by decide, rfl, _, rfl, Tryz.underlying3⟩
  simp at h) rfl
theorem eq96 : EqTells Tryz.prog 96 [some .i64, some .i64, some .i64] := eqTells_of (F := _) Tryz.underlying96 (by kernel_rfl) (by kernel_rfl) (fun i f h => by
  rcases i with _ | i
  · cases h; exact ⟨by decide, rfl, _, rfl, Tryz.underlying3⟩
  rcases i with _ | i
  · cases h; exact ⟨by decide, rfl, _, rfl, Tryz.underlying3⟩
  rcases i with _ | i
  · cases h; exact ⟨by decide, rfl, _, rfl, Tryz.underlying29⟩
  simp at h) rfl
theorem eq97 : EqTells Tryz.prog 97 [some .i64, some .i64, some .i64] := eqTells_of (F := _) Tryz.underlying97 (by kernel_rfl) (by kernel_rfl) (fun i f h => by
  rcases i with _ | i
  · cases h; exact ⟨by decide, rfl, _, rfl, Tryz.underlying3⟩
  rcases i with _ | i
  · cases h; exact ⟨by decide, rfl, _, rfl, Tryz.underlying3⟩
  rcases i with _ | i
  · cases h; exact ⟨by decide, rfl, _, rfl, Tryz.underlying29⟩
  simp at h) rfl
theorem eq111 : EqTells Tryz.prog 111 [some .i64, some .i64, some .i64] := eqTells_of (F := _) Tryz.underlying111 (by kernel_rfl) (by kernel_rfl) (fun i f h => by
  rcases i with _ | i
  · cases h; exact ⟨by decide, rfl, _, rfl, Tryz.underlying3⟩
  rcases i with _ | i
  · cases h; exact ⟨by decide, rfl, _, rfl, Tryz.underlying3⟩
  rcases i with _ | i
  · cases h; exact ⟨by decide, rfl, _, rfl, Tryz.underlying3⟩
  simp at h) rfl
theorem eq112 : EqTells Tryz.prog 112 [some .i64, some .i64, some .i64] := eqTells_of (F := _) Tryz.underlying112 (by kernel_rfl) (by kernel_rfl) (fun i f h => by
  rcases i with _ | i
  · cases h; exact ⟨by decide, rfl, _, rfl, Tryz.underlying3⟩
  rcases i with _ | i
  · cases h; exact ⟨by decide, rfl, _, rfl, Tryz.underlying3⟩
  rcases i with _ | i
  · cases h; exact ⟨by decide, rfl, _, rfl, Tryz.underlying3⟩
  simp at h) rfl
theorem eq124 : EqTells Tryz.prog 124 [some .i64, some .i64, some .i64] := eqTells_of (F := _) Tryz.underlying124 (by kernel_rfl) (by kernel_rfl) (fun i f h => by
  rcases i with _ | i
  · cases h; exact ⟨by decide, rfl, _, rfl, Tryz.underlying3⟩
  rcases i with _ | i
  · cases h; exact ⟨by decide, rfl, _, rfl, Tryz.underlying3⟩
  rcases i with _ | i
  · cases h; exact ⟨by decide, rfl, _, rfl, Tryz.underlying3⟩
  simp at h) rfl
theorem eq125 : EqTells Tryz.prog 125 [some .i64, some .i64, some .i64] := eqTells_of (F := _) Tryz.underlying125 (by kernel_rfl) (by kernel_rfl) (fun i f h => by
  rcases i with _ | i
  · cases h; exact ⟨by decide, rfl, _, rfl, Tryz.underlying3⟩
  rcases i with _ | i
  · cases h; exact ⟨by decide, rfl, _, rfl, Tryz.underlying3⟩
  rcases i with _ | i
  · cases h; exact ⟨by decide, rfl, _, rfl, Tryz.underlying3⟩
  simp at h) rfl
theorem eq141 : EqTells Tryz.prog 141 [some .i64, some .i64, some .i64] := eqTells_of (F := _) Tryz.underlying141 (by kernel_rfl) (by kernel_rfl) (fun i f h => by
  rcases i with _ | i
  · cases h; exact ⟨by decide, rfl, _, rfl, Tryz.underlying3⟩
  rcases i with _ | i
  · cases h; exact ⟨by decide, rfl, _, rfl, Tryz.underlying3⟩
  rcases i with _ | i
  · cases h; exact ⟨by decide, rfl, _, rfl, Tryz.underlying3⟩
  simp at h) rfl
theorem eq142 : EqTells Tryz.prog 142 [some .i64, some .i64, some .i64] := eqTells_of (F := _) Tryz.underlying142 (by kernel_rfl) (by kernel_rfl) (fun i f h => by
  rcases i with _ | i
  · cases h; exact ⟨by decide, rfl, _, rfl, Tryz.underlying3⟩
  rcases i with _ | i
  · cases h; exact ⟨by decide, rfl, _, rfl, Tryz.underlying3⟩
  rcases i with _ | i
  · cases h; exact ⟨by decide, rfl, _, rfl, Tryz.underlying3⟩
  simp at h) rfl
theorem eq191 : EqTells Tryz.prog 191 [some .i64, some .i64, some .i64, some .i64, some .i64, none] := eqTells_of (F := _) Tryz.underlying191 (by kernel_rfl) (by kernel_rfl) (fun i f h => by
  rcases i with _ | i
  · cases h; exact ⟨by decide, rfl, _, rfl, Tryz.underlying3⟩
  rcases i with _ | i
  · cases h; exact ⟨by decide, rfl, _, rfl, Tryz.underlying3⟩
  rcases i with _ | i
  · cases h; exact ⟨by decide, rfl, _, rfl, Tryz.underlying3⟩
  rcases i with _ | i
  · cases h; exact ⟨by decide, rfl, _, rfl, Tryz.underlying3⟩
  rcases i with _ | i
  · cases h; exact ⟨by decide, rfl, _, rfl, Tryz.underlying3⟩
  rcases i with _ | i
  · cases h; exact ⟨by decide, rfl, _, rfl, Tryz.underlying4⟩
  simp at h) rfl
theorem eq192 : EqTells Tryz.prog 192 [some .i64, some .i64, some .i64, some .i64, some .i64, none] := eqTells_of (F := _) Tryz.underlying192 (by kernel_rfl) (by kernel_rfl) (fun i f h => by
  rcases i with _ | i
  · cases h; exact ⟨by decide, rfl, _, rfl, Tryz.underlying3⟩
  rcases i with _ | i
  · cases h; exact ⟨by decide, rfl, _, rfl, Tryz.underlying3⟩
  rcases i with _ | i
  · cases h; exact ⟨by decide, rfl, _, rfl, Tryz.underlying3⟩
  rcases i with _ | i
  · cases h; exact ⟨by decide, rfl, _, rfl, Tryz.underlying3⟩
  rcases i with _ | i
  · cases h; exact ⟨by decide, rfl, _, rfl, Tryz.underlying3⟩
  rcases i with _ | i
  · cases h; exact ⟨by decide, rfl, _, rfl, Tryz.underlying4⟩
  simp at h) rfl
theorem tab : TabOk Tryz.prog T := by
  refine TabOk.of (by kernel_rfl) (assoc_all (l := tl) (Q := fun t i => TIok Tryz.prog t i) ?_) (assoc_all (l := tl) (Q := fun t i => i.eq = true → ∀ ks, i.kds = some ks → EqTells Tryz.prog t ks) ?_) (fun t i fs h hk => assoc_all (l := tl) (Q := fun _ i => ∀ fs, i.k = .struct fs → fs.all (fun x => (T x.2).isSome) = true) ?_ t i h fs hk)
  · simp only [tl, List.forall_mem_cons, List.not_mem_nil, false_implies, implies_true, and_true]
    exact ⟨oT Tryz.underlying1 (rfl) (by kernel_rfl) rfl rfl rfl, oT Tryz.underlying2 (rfl) (by kernel_rfl) rfl rfl rfl, oT Tryz.underlying3 (rfl) (by kernel_rfl) rfl rfl rfl, oT Tryz.underlying4 (rfl) (by kernel_rfl) rfl rfl rfl, oT Tryz.underlying5 (rfl) (by kernel_rfl) rfl rfl rfl, oT Tryz.underlying9 (rfl) (by kernel_rfl) rfl rfl rfl, oT Tryz.underlying12 (rfl) (by kernel_rfl) rfl rfl rfl, oT Tryz.underlying21 (rfl) (by kernel_rfl) rfl rfl rfl, oT Tryz.underlying22 (rfl) (by kernel_rfl) rfl rfl rfl, oT Tryz.underlying23 (fields_of rfl) (by kernel_rfl) rfl rfl rfl, oT Tryz.underlying24 (fields_of rfl) (by kernel_rfl) rfl rfl rfl, oT Tryz.underlying25 (rfl) (by kernel_rfl) rfl rfl rfl, oT Tryz.underlying26 (rfl) (by kernel_rfl) rfl rfl rfl, oT Tryz.underlying27 (rfl) (by kernel_rfl) rfl rfl rfl, oT Tryz.underlying28 (rfl) (by kernel_rfl) rfl rfl rfl, oT Tryz.underlying29 (rfl) (by kernel_rfl) rfl rfl rfl, oT Tryz.underlying31 (rfl) (by kernel_rfl) rfl rfl rfl, oT Tryz.underlying33 (rfl) (by kernel_rfl) rfl rfl rfl, oT Tryz.underlying34 (rfl) (by kernel_rfl) rfl rfl rfl, oT Tryz.underlying35 (rfl) (by kernel_rfl) rfl rfl rfl, oT Tryz.underlying36 (rfl) (by kernel_rfl) rfl rfl rfl, oT Tryz.underlying38 (rfl) (by kernel_rfl) rfl rfl rfl, oT Tryz.underlying39 (rfl) (by kernel_rfl) rfl rfl rfl, oT Tryz.underlying40 (rfl) (by kernel_rfl) rfl rfl rfl, oT Tryz.underlying41 (rfl) (by kernel_rfl) rfl rfl rfl, oT Tryz.underlying42 (fields_of rfl) (by kernel_rfl) rfl rfl rfl, oT Tryz.underlying43 (fields_of rfl) (by kernel_rfl) rfl rfl rfl, oT Tryz.underlying45 (rfl) (by kernel_rfl) rfl rfl rfl, oT Tryz.underlying47 (rfl) (by kernel_rfl) rfl rfl rfl, oT Tryz.underlying48 (rfl) (by kernel_rfl) rfl rfl rfl, oT Tryz.underlying49 (rfl) (by kernel_rfl) rfl rfl rfl, oT Tryz.underlying50 (rfl) (by kernel_rfl) rfl rfl rfl, oT Tryz.underlying51 (rfl) (by kernel_rfl) rfl rfl rfl, oT Tryz.underlying52 (fields_of rfl) (by kernel_rfl) rfl rfl rfl, oT Tryz.underlying53 (fields_of rfl) (by kernel_rfl) rfl rfl rfl, oT Tryz.underlying54 (rfl) (by kernel_rfl) rfl rfl rfl, oT Tryz.underlying56 (rfl) (by kernel_rfl) rfl rfl rfl, oT Tryz.underlying57 (rfl) (by kernel_rfl) rfl rfl rfl, oT Tryz.underlying58 (fields_of rfl) (by kernel_rfl) rfl rfl rfl, oT Tryz.underlying59 (fields_of rfl) (by kernel_rfl) rfl rfl rfl, oT Tryz.underlying60 (rfl) (by kernel_rfl) rfl rfl rfl, oT Tryz.underlying61 (rfl) (by kernel_rfl) rfl rfl rfl, oT Tryz.underlying62 (rfl) (by kernel_rfl) rfl rfl rfl, oT Tryz.underlying63 (rfl) (by kernel_rfl) rfl rfl rfl, oT Tryz.underlying64 (fields_of rfl) (by kernel_rfl) rfl rfl rfl, oT Tryz.underlying65 (fields_of rfl) (by kernel_rfl) rfl rfl rfl, oT Tryz.underlying66 (fields_of rfl) (by kernel_rfl) rfl rfl rfl, oT Tryz.underlying67 (fields_of rfl) (by kernel_rfl) rfl rfl rfl, oT Tryz.underlying69 (rfl) (by kernel_rfl) rfl rfl rfl, oT Tryz.underlying71 (rfl) (by kernel_rfl) rfl rfl rfl, oT Tryz.underlying73 (rfl) (by kernel_rfl) rfl rfl rfl, oT Tryz.underlying74 (rfl) (by kernel_rfl) rfl rfl rfl, oT Tryz.underlying75 (rfl) (by kernel_rfl) rfl rfl rfl, oT Tryz.underlying77 (rfl) (by kernel_rfl) rfl rfl rfl, oT Tryz.underlying78 (rfl) (by kernel_rfl) rfl rfl rfl, oT Tryz.underlying79 (rfl) (by kernel_rfl) rfl rfl rfl, oT Tryz.underlying80 (rfl) (by kernel_rfl) rfl rfl rfl, oT Tryz.underlying81 (rfl) (by kernel_rfl) rfl rfl rfl, oT Tryz.underlying82 (rfl) (by kernel_rfl) rfl rfl rfl, oT Tryz.underlying83 (fields_of rfl) (by kernel_rfl) rfl rfl rfl, oT Tryz.underlying84 (fields_of rfl) (by kernel_rfl) rfl rfl rfl, oT Tryz.underlying86 (rfl) (by kernel_rfl) rfl rfl rfl, oT Tryz.underlying87 (rfl) (by kernel_rfl) rfl rfl rfl, oT Tryz.underlying88 (rfl) (by kernel_rfl) rfl rfl rfl, oT Tryz.underlying89 (fields_of rfl) (by kernel_rfl) rfl rfl rfl, oT Tryz.underlying90 (fields_of rfl) (by kernel_rfl) rfl rfl rfl, oT Tryz.underlying92 (rfl) (by kernel_rfl) rfl rfl rfl, oT Tryz.underlying93 (rfl) (by kernel_rfl) rfl rfl rfl, oT Tryz.underlying95 (rfl) (by kernel_rfl) rfl rfl rfl, oT Tryz.underlying96 (fields_of rfl) (by kernel_rfl) rfl rfl rfl, oT Tryz.underlying97 (fields_of rfl) (by kernel_rfl) rfl rfl rfl, oT Tryz.underlying99 (rfl) (by kernel_rfl) rfl rfl rfl, oT Tryz.underlying100 (rfl) (by kernel_rfl) rfl rfl rfl, oT Tryz.underlying101 (fields_of rfl) (by kernel_rfl) rfl rfl rfl, oT Tryz.underlying102 (fields_of rfl) (by kernel_rfl) rfl rfl rfl, oT Tryz.underlying103 (rfl) (by kernel_rfl) rfl rfl rfl, oT Tryz.underlying104 (rfl) (by kernel_rfl) rfl rfl rfl, oT Tryz.underlying105 (rfl) (by kernel_rfl) rfl rfl rfl, oT Tryz.underlying106 (rfl) (by kernel_rfl) rfl rfl rfl, oT Tryz.underlying107 (rfl) (by kernel_rfl) rfl rfl rfl, oT Tryz.underlying108 (rfl) (by kernel_rfl) rfl rfl rfl, oT Tryz.underlying109 (fields_of rfl) (by kernel_rfl) rfl rfl rfl, oT Tryz.underlying110 (fields_of rfl) (by kernel_rfl) rfl rfl rfl, oT Tryz.underlying111 (fields_of rfl) (by kernel_rfl) rfl rfl rfl, oT Tryz.underlying112 (fields_of rfl) (by kernel_rfl) rfl rfl rfl, oT Tryz.underlying113 (rfl) (by kernel_rfl) rfl rfl rfl, oT Tryz.underlying114 (rfl) (by kernel_rfl) rfl rfl rfl, oT Tryz.underlying115 (rfl) (by kernel_rfl) rfl rfl rfl, oT Tryz.underlying116 (fields_of rfl) (by kernel_rfl) rfl rfl rfl, oT Tryz.underlying117 (fields_of rfl) (by kernel_rfl) rfl rfl rfl, oT Tryz.underlying118 (rfl) (by kernel_rfl) rfl rfl rfl, oT Tryz.underlying119 (rfl) (by kernel_rfl) rfl rfl rfl, oT Tryz.underlying120 (fields_of rfl) (by kernel_rfl) rfl rfl rfl, oT Tryz.underlying121 (fields_of rfl) (by kernel_rfl) rfl rfl rfl, oT Tryz.underlying122 (rfl) (by kernel_rfl) rfl rfl rfl, oT Tryz.underlying123 (rfl) (by kernel_rfl) rfl rfl rfl, oT Tryz.underlying124 (fields_of rfl) (by kernel_rfl) rfl rfl rfl, oT Tryz.underlying125 (fields_of rfl) (by kernel_rfl) rfl rfl rfl, oT Tryz.underlying126 (rfl) (by kernel_rfl) rfl rfl rfl, oT Tryz.underlying127 (rfl) (by kernel_rfl) rfl rfl rfl, oT Tryz.underlying129 (rfl) (by kernel_rfl) rfl rfl rfl, oT Tryz.underlying131 (rfl) (by kernel_rfl) rfl rfl rfl, oT Tryz.underlying132 (rfl) (by kernel_rfl) rfl rfl rfl, oT Tryz.underlying134 (rfl) (by kernel_rfl) rfl rfl rfl, oT Tryz.underlying135 (rfl) (by kernel_rfl) rfl rfl rfl, oT Tryz.underlying136 (rfl) (by kernel_rfl) rfl rfl rfl, oT Tryz.underlying138 (rfl) (by kernel_rfl) rfl rfl rfl, oT Tryz.underlying139 (rfl) (by kernel_rfl) rfl rfl rfl, oT Tryz.underlying140 (rfl) (by kernel_rfl) rfl rfl rfl, oT Tryz.underlying141 (fields_of rfl) (by kernel_rfl) rfl rfl rfl, oT Tryz.underlying142 (fields_of rfl) (by kernel_rfl) rfl rfl rfl, oT Tryz.underlying143 (rfl) (by kernel_rfl) rfl rfl rfl, oT Tryz.underlying144 (rfl) (by kernel_rfl) rfl rfl rfl, oT Tryz.underlying145 (rfl) (by kernel_rfl) rfl rfl rfl, oT Tryz.underlying146 (rfl) (by kernel_rfl) rfl rfl rfl, oT Tryz.underlying147 (rfl) (by kernel_rfl) rfl rfl rfl, oT Tryz.underlying148 (rfl) (by kernel_rfl) rfl rfl rfl, oT Tryz.underlying149 (rfl) (by kernel_rfl) rfl rfl rfl, oT Tryz.underlying150 (rfl) (by kernel_rfl) rfl rfl rfl, oT Tryz.underlying151 (rfl) (by kernel_rfl) rfl rfl rfl, oT Tryz.underlying152 (rfl) (by kernel_rfl) rfl rfl rfl, oT Tryz.underlying153 (rfl) (by kernel_rfl) rfl rfl rfl, oT Tryz.underlying154 (fields_of rfl) (by kernel_rfl) rfl rfl rfl, oT Tryz.underlying155 (fields_of rfl) (by kernel_rfl) rfl rfl rfl, oT Tryz.underlying157 (rfl) (by kernel_rfl) rfl rfl rfl, oT Tryz.underlying158 (fields_of rfl) (by kernel_rfl) rfl rfl rfl, oT Tryz.underlying159 (fields_of rfl) (by kernel_rfl) rfl rfl rfl, oT Tryz.underlying160 (rfl) (by kernel_rfl) rfl rfl rfl, oT Tryz.underlying161 (rfl) (by kernel_rfl) rfl rfl rfl, oT Tryz.underlying162 (rfl) (by kernel_rfl) rfl rfl rfl, oT Tryz.underlying163 (rfl) (by kernel_rfl) rfl rfl rfl, oT Tryz.underlying164 (rfl) (by kernel_rfl) rfl rfl rfl, oT Tryz.underlying165 (rfl) (by kernel_rfl) rfl rfl rfl, oT Tryz.underlying166 (rfl) (by kernel_rfl) rfl rfl rfl, oT Tryz.underlying167 (rfl) (by kernel_rfl) rfl rfl rfl, oT Tryz.underlying168 (rfl) (by kernel_rfl) rfl rfl rfl, oT Tryz.underlying170 (rfl) (by kernel_rfl) rfl rfl rfl, oT Tryz.underlying172 (rfl) (by kernel_rfl) rfl rfl rfl, oT Tryz.underlying173 (rfl) (by kernel_rfl) rfl rfl rfl, oT Tryz.underlying174 (rfl) (by kernel_rfl) rfl rfl rfl, oT Tryz.underlying175 (rfl) (by kernel_rfl) rfl rfl rfl, oT Tryz.underlying176 (rfl) (by kernel_rfl) rfl rfl rfl, oT Tryz.underlying177 (fields_of rfl) (by kernel_rfl) rfl rfl rfl, oT Tryz.underlying178 (fields_of rfl) (by kernel_rfl) rfl rfl rfl, oT Tryz.underlying179 (fields_of rfl) (by kernel_rfl) rfl rfl rfl, oT Tryz.underlying180 (fields_of rfl) (by kernel_rfl) rfl rfl rfl, oT Tryz.underlying181 (rfl) (by kernel_rfl) rfl rfl rfl, oT Tryz.underlying182 (rfl) (by kernel_rfl) rfl rfl rfl, oT Tryz.underlying183 (rfl) (by kernel_rfl) rfl rfl rfl, oT Tryz.underlying184 (rfl) (by kernel_rfl) rfl rfl rfl, oT Tryz.underlying185 (rfl) (by kernel_rfl) rfl rfl rfl, oT Tryz.underlying186 (rfl) (by kernel_rfl) rfl rfl rfl, oT Tryz.underlying187 (rfl) (by kernel_rfl) rfl rfl rfl, oT Tryz.underlying188 (rfl) (by kernel_rfl) rfl rfl rfl, oT Tryz.underlying189 (rfl) (by kernel_rfl) rfl rfl rfl, oT Tryz.underlying190 (rfl) (by kernel_rfl) rfl rfl rfl, oT Tryz.underlying191 (fields_of rfl) (by kernel_rfl) rfl rfl rfl, oT Tryz.underlying192 (fields_of rfl) (by kernel_rfl) rfl rfl rfl, oT Tryz.underlying193 (rfl) (by kernel_rfl) rfl rfl rfl, oT Tryz.underlying194 (rfl) (by kernel_rfl) rfl rfl rfl, oT Tryz.underlying195 (rfl) (by kernel_rfl) rfl rfl rfl, oT Tryz.underlying196 (rfl) (by kernel_rfl) rfl rfl rfl, oT Tryz.underlying198 (rfl) (by kernel_rfl) rfl rfl rfl, oT Tryz.underlying199 (rfl) (by kernel_rfl) rfl rfl rfl, oT Tryz.underlying200 (rfl) (by kernel_rfl) rfl rfl rfl, oT Tryz.underlying201 (rfl) (by kernel_rfl) rfl rfl rfl, oT Tryz.underlying202 (rfl) (by kernel_rfl) rfl rfl rfl, oT Tryz.underlying203 (rfl) (by kernel_rfl) rfl rfl rfl, oT Tryz.underlying204 (rfl) (by kernel_rfl) rfl rfl rfl, oT Tryz.underlying205 (rfl) (by kernel_rfl) rfl rfl rfl, oT Tryz.underlying206 (rfl) (by kernel_rfl) rfl rfl rfl, oT Tryz.underlying207 (rfl) (by kernel_rfl) rfl rfl rfl, oT Tryz.underlying208 (rfl) (by kernel_rfl) rfl rfl rfl, oT Tryz.underlying209 (rfl) (by kernel_rfl) rfl rfl rfl, oT Tryz.underlying210 (rfl) (by kernel_rfl) rfl rfl rfl, oT Tryz.underlying211 (rfl) (by kernel_rfl) rfl rfl rfl, oT Tryz.underlying212 (rfl) (by kernel_rfl) rfl rfl rfl, oT Tryz.underlying213 (rfl) (by kernel_rfl) rfl rfl rfl, oT Tryz.underlying214 (rfl) (by kernel_rfl) rfl rfl rfl, oT Tryz.underlying215 (rfl) (by kernel_rfl) rfl rfl rfl, oT Tryz.underlying216 (rfl) (by kernel_rfl) rfl rfl rfl, oT Tryz.underlying217 (rfl) (by kernel_rfl) rfl rfl rfl, oT Tryz.underlying218 (rfl) (by kernel_rfl) rfl rfl rfl, oT Tryz.underlying219 (rfl) (by kernel_rfl) rfl rfl rfl, oT Tryz.underlying220 (rfl) (by kernel_rfl) rfl rfl rfl, oT Tryz.underlying221 (rfl) (by kernel_rfl) rfl rfl rfl, oT Tryz.underlying222 (rfl) (by kernel_rfl) rfl rfl rfl, oT Tryz.underlying228 (rfl) (by kernel_rfl) rfl rfl rfl, oT Tryz.underlying232 (rfl) (by kernel_rfl) rfl rfl rfl⟩
  · simp only [tl, List.forall_mem_cons, List.not_mem_nil, false_implies, implies_true, and_true]
    exact ⟨nofun, nofun, nofun, nofun, nofun, nofun, nofun, nofun, nofun, (fun _ ks h => by cases h; exact eq23), (fun _ ks h => by cases h; exact eq24), nofun, nofun, nofun, nofun, nofun, nofun, nofun, nofun, nofun, nofun, nofun, nofun, nofun, nofun, nofun, nofun, nofun, nofun, nofun, nofun, nofun, nofun, nofun, nofun, nofun, nofun, nofun, nofun, nofun, nofun, nofun, nofun, nofun, nofun, nofun, (fun _ ks h => by cases h; exact eq66), (fun _ ks h => by cases h; exact eq67), nofun, nofun, nofun, nofun, nofun, nofun, nofun, nofun, nofun, nofun, nofun, nofun, nofun, nofun, nofun, nofun, nofun, nofun, nofun, nofun, nofun, (fun _ ks h => by cases h; exact eq96), (fun _ ks h => by cases h; exact eq97), nofun, nofun, nofun, nofun, nofun, nofun, nofun, nofun, nofun, nofun, nofun, nofun, (fun _ ks h => by cases h; exact eq111), (fun _ ks h => by cases h; exact eq112), nofun, nofun, nofun, nofun, nofun, nofun, nofun, nofun, nofun, nofun, nofun, (fun _ ks h => by cases h; exact eq124), (fun _ ks h => by cases h; exact eq125), nofun, nofun, nofun, nofun, nofun, nofun, nofun, nofun, nofun, nofun, nofun, (fun _ ks h => by cases h; exact eq141), (fun _ ks h => by cases h; exact eq142), nofun, nofun, nofun, nofun, nofun, nofun, nofun, nofun, nofun, nofun, nofun, nofun, nofun, nofun, nofun, nofun, nofun, nofun, nofun, nofun, nofun, nofun, nofun, nofun, nofun, nofun, nofun, nofun, nofun, nofun, nofun, nofun, nofun, nofun, nofun, nofun, nofun, nofun, nofun, nofun, nofun, nofun, nofun, nofun, nofun, (fun _ ks h => by cases h; exact eq191), (fun _ ks h => by cases h; exact eq192), nofun, nofun, nofun, nofun, nofun, nofun, nofun, nofun, nofun, nofun, nofun, nofun, nofun, nofun, nofun, nofun, nofun, nofun, nofun, nofun, nofun, nofun, nofun, nofun, nofun, nofun, nofun, nofun, nofun, nofun, nofun⟩
  · simp only [tl, List.forall_mem_cons, List.not_mem_nil, false_implies, implies_true, and_true]
    exact ⟨nofun, nofun, nofun, nofun, nofun, nofun, nofun, nofun, nofun, (fun fs h => by cases h; rfl), (fun fs h => by cases h; rfl), nofun, nofun, nofun, nofun, nofun, nofun, nofun, nofun, nofun, nofun, nofun, nofun, nofun, nofun, (fun fs h => by cases h; rfl), (fun fs h => by cases h; rfl), nofun, nofun, nofun, nofun, nofun, nofun, (fun fs h => by cases h; rfl), (fun fs h => by cases h; rfl), nofun, nofun, nofun, (fun fs h => by cases h; rfl), (fun fs h => by cases h; rfl), nofun, nofun, nofun, nofun, (fun fs h => by cases h; rfl), (fun fs h => by cases h; rfl), (fun fs h => by cases h; rfl), (fun fs h => by cases h; rfl), nofun, nofun, nofun, nofun, nofun, nofun, nofun, nofun, nofun, nofun, nofun, (fun fs h => by cases h; rfl), (fun fs h => by cases h; rfl), nofun, nofun, nofun, (fun fs h => by cases h; rfl), (fun fs h => by cases h; rfl), nofun, nofun, nofun, (fun fs h => by cases h; rfl), (fun fs h => by cases h; rfl), nofun, nofun, (fun fs h => by cases h; rfl), (fun fs h => by cases h; rfl), nofun, nofun, nofun, nofun, nofun, nofun, (fun fs h => by cases h; rfl), (fun fs h => by cases h; rfl), (fun fs h => by cases h; rfl), (fun fs h => by cases h; rfl), nofun, nofun, nofun, (fun fs h => by cases h; rfl), (fun fs h => by cases h; rfl), nofun, nofun, (fun fs h => by cases h; rfl), (fun fs h => by cases h; rfl), nofun, nofun, (fun fs h => by cases h; rfl), (fun fs h => by cases h; rfl), nofun, nofun, nofun, nofun, nofun, nofun, nofun, nofun, nofun, nofun, nofun, (fun fs h => by cases h; rfl), (fun fs h => by cases h; rfl), nofun, nofun, nofun, nofun, nofun, nofun, nofun, nofun, nofun, nofun, nofun, (fun fs h => by cases h; rfl), (fun fs h => by cases h; rfl), nofun, (fun fs h => by cases h; rfl), (fun fs h => by cases h; rfl), nofun, nofun, nofun, nofun, nofun, nofun, nofun, nofun, nofun, nofun, nofun, nofun, nofun, nofun, nofun, (fun fs h => by cases h; rfl), (fun fs h => by cases h; rfl), (fun fs h => by cases h; rfl), (fun fs h => by cases h; rfl), nofun, nofun, nofun, nofun, nofun, nofun, nofun, nofun, nofun, nofun, (fun fs h => by cases h; rfl), (fun fs h => by cases h; rfl), nofun, nofun, nofun, nofun, nofun, nofun, nofun, nofun, nofun, nofun, nofun, nofun, nofun, nofun, nofun, nofun, nofun, nofun, nofun, nofun, nofun, nofun, nofun, nofun, nofun, nofun, nofun, nofun, nofun, nofun, nofun⟩
end Go.Proofs.YtpephpefjddgcaaGreat
