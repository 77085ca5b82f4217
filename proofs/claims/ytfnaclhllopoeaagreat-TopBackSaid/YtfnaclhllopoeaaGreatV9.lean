/- Part 10 of what follows is proved here: the layer over the walk. -/
import Derived.Test.YtfnaclhllopoeaaGreatV8
import Derived.Test.YtfnaclhllopoeaaGreatProg
import Derived.Test.YtfnaclhllopoeaaGreatV1
import Derived.KernelRfl
set_option linter.unusedVariables false
set_option linter.unusedSimpArgs false
set_option maxRecDepth 100000
/- The seat's types, as the V layer wants them; each line is checked against the program by the kernel. -/
namespace Go.Proofs.YtfnaclhllopoeaaGreat
open Go Go.VC

def tl : List (Nat × TI) := [(1, ⟨.other, 1, 8, [.d .nilfn], false⟩),
  (2, ⟨.int .i64, 1, 8, [.d (.int .i64 0)], false⟩),
  (3, ⟨.int .i64, 1, 8, [.d (.int .i64 0)], false⟩),
  (4, ⟨.bool, 1, 1, [.d (.bool false)], false⟩),
  (5, ⟨.int .u8, 1, 1, [.d (.int .u8 0)], false⟩),
  (9, ⟨.str, 1, 16, [.d (.str ⟨#[]⟩)], false⟩),
  (12, ⟨.int .u64, 1, 8, [.d (.int .u64 0)], false⟩),
  (21, ⟨.int .i32, 1, 4, [.d (.int .i32 0)], false⟩),
  (22, ⟨.slice 41, 1, 24, [.nil], false⟩),
  (23, ⟨.slice 63, 1, 24, [.nil], false⟩),
  (24, ⟨.struct [(0, 22), (1, 23)], 2, 48, [.nil, .nil], false⟩),
  (25, ⟨.struct [(0, 22), (1, 23)], 2, 48, [.nil, .nil], false⟩),
  (26, ⟨.slice 5, 1, 24, [.nil], false⟩),
  (27, ⟨.other, 1, 8, [.d .nilfn], false⟩),
  (28, ⟨.other, 1, 8, [.d .nilfn], false⟩),
  (29, ⟨.int .i64, 1, 8, [.d (.int .i64 0)], false⟩),
  (31, ⟨.other, 1, 8, [.d .nilfn], false⟩),
  (33, ⟨.other, 1, 8, [.d .nilfn], false⟩),
  (34, ⟨.other, 1, 8, [.d .nilfn], false⟩),
  (35, ⟨.other, 1, 8, [.d .nilfn], false⟩),
  (36, ⟨.other, 1, 8, [.d .nilfn], false⟩),
  (37, ⟨.struct [(0, 3), (1, 3)], 2, 16, [.d (.int .i64 0), .d (.int .i64 0)], true⟩),
  (38, ⟨.struct [(0, 3), (1, 3)], 2, 16, [.d (.int .i64 0), .d (.int .i64 0)], true⟩),
  (39, ⟨.slice 47, 1, 24, [.nil], false⟩),
  (40, ⟨.struct [(0, 38), (2, 39)], 3, 40, [.d (.int .i64 0), .d (.int .i64 0), .nil], false⟩),
  (41, ⟨.struct [(0, 38), (2, 39)], 3, 40, [.d (.int .i64 0), .d (.int .i64 0), .nil], false⟩),
  (42, ⟨.slice 56, 1, 24, [.nil], false⟩),
  (44, ⟨.other, 1, 8, [.d .nilfn], false⟩),
  (45, ⟨.slice 61, 1, 24, [.nil], false⟩),
  (46, ⟨.struct [(0, 3), (1, 3), (2, 3), (3, 45)], 4, 48, [.d (.int .i64 0), .d (.int .i64 0), .d (.int .i64 0), .nil], false⟩),
  (47, ⟨.struct [(0, 3), (1, 3), (2, 3), (3, 45)], 4, 48, [.d (.int .i64 0), .d (.int .i64 0), .d (.int .i64 0), .nil], false⟩),
  (48, ⟨.struct [(0, 3), (1, 3), (2, 3), (3, 3), (4, 47)], 8, 80, [.d (.int .i64 0), .d (.int .i64 0), .d (.int .i64 0), .d (.int .i64 0), .d (.int .i64 0), .d (.int .i64 0), .d (.int .i64 0), .nil], false⟩),
  (49, ⟨.struct [(0, 3), (1, 3), (2, 3), (3, 3), (4, 47)], 8, 80, [.d (.int .i64 0), .d (.int .i64 0), .d (.int .i64 0), .d (.int .i64 0), .d (.int .i64 0), .d (.int .i64 0), .d (.int .i64 0), .nil], false⟩),
  (50, ⟨.slice 49, 1, 24, [.nil], false⟩),
  (51, ⟨.slice 50, 1, 24, [.nil], false⟩),
  (52, ⟨.slice 87, 1, 24, [.nil], false⟩),
  (53, ⟨.slice 3, 1, 24, [.nil], false⟩),
  (54, ⟨.slice 58, 1, 24, [.nil], false⟩),
  (55, ⟨.struct [(0, 52), (1, 53), (2, 54)], 3, 72, [.nil, .nil, .nil], false⟩),
  (56, ⟨.struct [(0, 52), (1, 53), (2, 54)], 3, 72, [.nil, .nil, .nil], false⟩),
  (57, ⟨.struct [(0, 3), (1, 3), (2, 3)], 3, 24, [.d (.int .i64 0), .d (.int .i64 0), .d (.int .i64 0)], true⟩),
  (58, ⟨.struct [(0, 3), (1, 3), (2, 3)], 3, 24, [.d (.int .i64 0), .d (.int .i64 0), .d (.int .i64 0)], true⟩),
  (59, ⟨.other, 1, 8, [.d .nilfn], false⟩),
  (60, ⟨.struct [(0, 3), (1, 3), (2, 3)], 3, 24, [.d (.int .i64 0), .d (.int .i64 0), .d (.int .i64 0)], true⟩),
  (61, ⟨.struct [(0, 3), (1, 3), (2, 3)], 3, 24, [.d (.int .i64 0), .d (.int .i64 0), .d (.int .i64 0)], true⟩),
  (62, ⟨.struct [(0, 3), (1, 3), (2, 3)], 3, 24, [.d (.int .i64 0), .d (.int .i64 0), .d (.int .i64 0)], true⟩),
  (63, ⟨.struct [(0, 3), (1, 3), (2, 3)], 3, 24, [.d (.int .i64 0), .d (.int .i64 0), .d (.int .i64 0)], true⟩),
  (64, ⟨.other, 1, 8, [.nilptr], false⟩),
  (65, ⟨.struct [(0, 26), (1, 3), (2, 29)], 3, 40, [.nil, .d (.int .i64 0), .d (.int .i64 0)], false⟩),
  (66, ⟨.struct [(0, 26), (1, 3), (2, 29)], 3, 40, [.nil, .d (.int .i64 0), .d (.int .i64 0)], false⟩),
  (67, ⟨.other, 1, 8, [.d .nilfn], false⟩),
  (68, ⟨.other, 1, 8, [.d .nilfn], false⟩),
  (69, ⟨.other, 1, 8, [.d .nilfn], false⟩),
  (70, ⟨.other, 1, 8, [.d .nilfn], false⟩),
  (71, ⟨.other, 1, 8, [.d .nilfn], false⟩),
  (72, ⟨.other, 1, 8, [.d .nilfn], false⟩),
  (73, ⟨.slice 147, 1, 24, [.nil], false⟩),
  (74, ⟨.struct [(0, 3), (1, 73)], 2, 32, [.d (.int .i64 0), .nil], false⟩),
  (75, ⟨.struct [(0, 3), (1, 73)], 2, 32, [.d (.int .i64 0), .nil], false⟩),
  (76, ⟨.slice 38, 1, 24, [.nil], false⟩),
  (77, ⟨.slice 93, 1, 24, [.nil], false⟩),
  (78, ⟨.slice 119, 1, 24, [.nil], false⟩),
  (79, ⟨.struct [(0, 75), (2, 76), (3, 77), (4, 78), (5, 3)], 6, 112, [.d (.int .i64 0), .nil, .nil, .nil, .nil, .d (.int .i64 0)], false⟩),
  (80, ⟨.struct [(0, 75), (2, 76), (3, 77), (4, 78), (5, 3)], 6, 112, [.d (.int .i64 0), .nil, .nil, .nil, .nil, .d (.int .i64 0)], false⟩),
  (82, ⟨.other, 1, 8, [.d .nilfn], false⟩),
  (83, ⟨.other, 1, 8, [.d .nilfn], false⟩),
  (85, ⟨.other, 1, 8, [.d .nilfn], false⟩),
  (86, ⟨.struct [(0, 3), (1, 3), (2, 29)], 3, 24, [.d (.int .i64 0), .d (.int .i64 0), .d (.int .i64 0)], true⟩),
  (87, ⟨.struct [(0, 3), (1, 3), (2, 29)], 3, 24, [.d (.int .i64 0), .d (.int .i64 0), .d (.int .i64 0)], true⟩),
  (89, ⟨.other, 1, 8, [.d .nilfn], false⟩),
  (90, ⟨.slice 4, 1, 24, [.nil], false⟩),
  (91, ⟨.slice 175, 1, 24, [.nil], false⟩),
  (92, ⟨.struct [(0, 39), (1, 90), (2, 53), (3, 91), (4, 54)], 5, 120, [.nil, .nil, .nil, .nil, .nil], false⟩),
  (93, ⟨.struct [(0, 39), (1, 90), (2, 53), (3, 91), (4, 54)], 5, 120, [.nil, .nil, .nil, .nil, .nil], false⟩),
  (94, ⟨.other, 1, 8, [.d .nilfn], false⟩),
  (96, ⟨.other, 1, 8, [.d .nilfn], false⟩),
  (97, ⟨.other, 1, 8, [.d .nilfn], false⟩),
  (98, ⟨.other, 1, 8, [.d .nilfn], false⟩),
  (99, ⟨.other, 1, 8, [.d .nilfn], false⟩),
  (101, ⟨.other, 1, 8, [.d .nilfn], false⟩),
  (103, ⟨.other, 1, 8, [.d .nilfn], false⟩),
  (104, ⟨.other, 1, 8, [.d .nilfn], false⟩),
  (106, ⟨.other, 1, 8, [.d .nilfn], false⟩),
  (107, ⟨.other, 1, 8, [.d .nilfn], false⟩),
  (108, ⟨.other, 1, 8, [.d .nilfn], false⟩),
  (110, ⟨.other, 1, 8, [.d .nilfn], false⟩),
  (111, ⟨.other, 1, 8, [.d .nilfn], false⟩),
  (112, ⟨.other, 1, 8, [.d .nilfn], false⟩),
  (113, ⟨.other, 1, 8, [.d .nilfn], false⟩),
  (114, ⟨.struct [(0, 53), (1, 3), (2, 3)], 3, 40, [.nil, .d (.int .i64 0), .d (.int .i64 0)], false⟩),
  (115, ⟨.struct [(0, 53), (1, 3), (2, 3)], 3, 40, [.nil, .d (.int .i64 0), .d (.int .i64 0)], false⟩),
  (117, ⟨.other, 1, 8, [.d .nilfn], false⟩),
  (118, ⟨.struct [(0, 63), (3, 115), (6, 115)], 9, 104, [.d (.int .i64 0), .d (.int .i64 0), .d (.int .i64 0), .nil, .d (.int .i64 0), .d (.int .i64 0), .nil, .d (.int .i64 0), .d (.int .i64 0)], false⟩),
  (119, ⟨.struct [(0, 63), (3, 115), (6, 115)], 9, 104, [.d (.int .i64 0), .d (.int .i64 0), .d (.int .i64 0), .nil, .d (.int .i64 0), .d (.int .i64 0), .nil, .d (.int .i64 0), .d (.int .i64 0)], false⟩),
  (120, ⟨.other, 1, 8, [.d .nilfn], false⟩),
  (121, ⟨.other, 1, 8, [.d .nilfn], false⟩),
  (123, ⟨.other, 1, 8, [.d .nilfn], false⟩),
  (124, ⟨.other, 1, 8, [.d .nilfn], false⟩),
  (125, ⟨.other, 1, 8, [.d .nilfn], false⟩),
  (126, ⟨.other, 1, 8, [.d .nilfn], false⟩),
  (127, ⟨.other, 1, 8, [.d .nilfn], false⟩),
  (128, ⟨.other, 1, 8, [.d .nilfn], false⟩),
  (129, ⟨.other, 1, 8, [.d .nilfn], false⟩),
  (130, ⟨.other, 1, 8, [.d .nilfn], false⟩),
  (131, ⟨.other, 1, 8, [.d .nilfn], false⟩),
  (132, ⟨.other, 1, 8, [.d .nilfn], false⟩),
  (133, ⟨.other, 1, 8, [.d .nilfn], false⟩),
  (134, ⟨.other, 1, 8, [.d .nilfn], false⟩),
  (135, ⟨.other, 1, 8, [.d .nilfn], false⟩),
  (136, ⟨.other, 1, 8, [.d .nilfn], false⟩),
  (137, ⟨.other, 1, 8, [.d .nilfn], false⟩),
  (138, ⟨.other, 1, 8, [.d .nilfn], false⟩),
  (139, ⟨.other, 1, 8, [.d .nilfn], false⟩),
  (141, ⟨.other, 1, 8, [.d .nilfn], false⟩),
  (143, ⟨.other, 1, 8, [.d .nilfn], false⟩),
  (144, ⟨.other, 1, 8, [.d .nilfn], false⟩),
  (145, ⟨.other, 1, 8, [.d .nilfn], false⟩),
  (146, ⟨.struct [(0, 3), (1, 3), (2, 3)], 3, 24, [.d (.int .i64 0), .d (.int .i64 0), .d (.int .i64 0)], true⟩),
  (147, ⟨.struct [(0, 3), (1, 3), (2, 3)], 3, 24, [.d (.int .i64 0), .d (.int .i64 0), .d (.int .i64 0)], true⟩),
  (148, ⟨.other, 1, 8, [.d .nilfn], false⟩),
  (149, ⟨.other, 1, 8, [.nilptr], false⟩),
  (150, ⟨.other, 1, 8, [.d .nilfn], false⟩),
  (151, ⟨.struct [(0, 54), (1, 3)], 2, 32, [.nil, .d (.int .i64 0)], false⟩),
  (152, ⟨.struct [(0, 54), (1, 3)], 2, 32, [.nil, .d (.int .i64 0)], false⟩),
  (153, ⟨.struct [(0, 152), (2, 93)], 7, 152, [.nil, .d (.int .i64 0), .nil, .nil, .nil, .nil, .nil], false⟩),
  (154, ⟨.struct [(0, 152), (2, 93)], 7, 152, [.nil, .d (.int .i64 0), .nil, .nil, .nil, .nil, .nil], false⟩),
  (155, ⟨.other, 1, 8, [.d .nilfn], false⟩),
  (156, ⟨.other, 1, 8, [.d .nilfn], false⟩),
  (157, ⟨.other, 1, 8, [.d .nilfn], false⟩),
  (159, ⟨.other, 1, 8, [.d .nilfn], false⟩),
  (160, ⟨.other, 1, 8, [.nilptr], false⟩),
  (161, ⟨.struct [(0, 76), (1, 53)], 2, 48, [.nil, .nil], false⟩),
  (162, ⟨.struct [(0, 76), (1, 53)], 2, 48, [.nil, .nil], false⟩),
  (163, ⟨.other, 1, 8, [.d .nilfn], false⟩),
  (164, ⟨.other, 1, 8, [.d .nilfn], false⟩),
  (165, ⟨.slice 126, 1, 24, [.nil], false⟩),
  (167, ⟨.other, 1, 8, [.d .nilfn], false⟩),
  (168, ⟨.other, 1, 8, [.d .nilfn], false⟩),
  (169, ⟨.other, 1, 8, [.d .nilfn], false⟩),
  (170, ⟨.other, 1, 8, [.d .nilfn], false⟩),
  (171, ⟨.other, 1, 8, [.d .nilfn], false⟩),
  (172, ⟨.other, 1, 8, [.d .nilfn], false⟩),
  (173, ⟨.other, 1, 8, [.d .nilfn], false⟩),
  (174, ⟨.struct [(0, 3), (1, 3), (2, 3), (3, 3), (4, 3), (5, 4)], 6, 48, [.d (.int .i64 0), .d (.int .i64 0), .d (.int .i64 0), .d (.int .i64 0), .d (.int .i64 0), .d (.bool false)], true⟩),
  (175, ⟨.struct [(0, 3), (1, 3), (2, 3), (3, 3), (4, 3), (5, 4)], 6, 48, [.d (.int .i64 0), .d (.int .i64 0), .d (.int .i64 0), .d (.int .i64 0), .d (.int .i64 0), .d (.bool false)], true⟩),
  (176, ⟨.other, 1, 8, [.d .nilfn], false⟩),
  (177, ⟨.other, 1, 8, [.d .nilfn], false⟩),
  (178, ⟨.other, 1, 8, [.d .nilfn], false⟩),
  (179, ⟨.other, 1, 8, [.d .nilfn], false⟩),
  (181, ⟨.other, 1, 8, [.d .nilfn], false⟩),
  (182, ⟨.other, 1, 8, [.d .nilfn], false⟩),
  (183, ⟨.other, 1, 8, [.d .nilfn], false⟩),
  (184, ⟨.other, 1, 8, [.d .nilfn], false⟩),
  (185, ⟨.other, 1, 8, [.d .nilfn], false⟩),
  (187, ⟨.other, 1, 8, [.d .nilfn], false⟩),
  (189, ⟨.other, 1, 8, [.d .nilfn], false⟩),
  (190, ⟨.other, 1, 8, [.d .nilfn], false⟩),
  (191, ⟨.other, 1, 8, [.d .nilfn], false⟩),
  (192, ⟨.other, 1, 8, [.nilptr], false⟩),
  (193, ⟨.other, 1, 8, [.d .nilfn], false⟩),
  (194, ⟨.other, 1, 8, [.d .nilfn], false⟩),
  (195, ⟨.other, 1, 8, [.d .nilfn], false⟩),
  (196, ⟨.other, 1, 8, [.d .nilfn], false⟩),
  (197, ⟨.other, 1, 8, [.d .nilfn], false⟩),
  (198, ⟨.other, 1, 8, [.d .nilfn], false⟩),
  (199, ⟨.other, 1, 8, [.d .nilfn], false⟩),
  (200, ⟨.other, 1, 8, [.d .nilfn], false⟩),
  (201, ⟨.other, 1, 8, [.d .nilfn], false⟩),
  (202, ⟨.other, 1, 8, [.d .nilfn], false⟩),
  (203, ⟨.other, 1, 8, [.d .nilfn], false⟩),
  (204, ⟨.other, 1, 8, [.d .nilfn], false⟩),
  (205, ⟨.other, 1, 8, [.d .nilfn], false⟩),
  (206, ⟨.other, 1, 8, [.d .nilfn], false⟩),
  (207, ⟨.other, 1, 8, [.d .nilfn], false⟩),
  (208, ⟨.other, 1, 8, [.d .nilfn], false⟩),
  (209, ⟨.other, 1, 8, [.d .nilfn], false⟩),
  (210, ⟨.other, 1, 8, [.d .nilfn], false⟩),
  (211, ⟨.other, 1, 8, [.d .nilfn], false⟩),
  (212, ⟨.other, 1, 8, [.d .nilfn], false⟩),
  (213, ⟨.other, 1, 8, [.d .nilfn], false⟩),
  (214, ⟨.other, 1, 8, [.d .nilfn], false⟩),
  (215, ⟨.other, 1, 8, [.d .nilfn], false⟩),
  (221, ⟨.int .u32, 1, 4, [.d (.int .u32 0)], false⟩),
  (225, ⟨.other, 1, 8, [.nilptr], false⟩)]
def T : TypeId → Option TI := fun t => assoc tl t
theorem T1 : T 1 = some ⟨.other, 1, 8, [.d .nilfn], false⟩ := rfl
theorem T2 : T 2 = some ⟨.int .i64, 1, 8, [.d (.int .i64 0)], false⟩ := rfl
theorem T3 : T 3 = some ⟨.int .i64, 1, 8, [.d (.int .i64 0)], false⟩ := rfl
theorem T4 : T 4 = some ⟨.bool, 1, 1, [.d (.bool false)], false⟩ := rfl
theorem T5 : T 5 = some ⟨.int .u8, 1, 1, [.d (.int .u8 0)], false⟩ := rfl
theorem T9 : T 9 = some ⟨.str, 1, 16, [.d (.str ⟨#[]⟩)], false⟩ := rfl
theorem T12 : T 12 = some ⟨.int .u64, 1, 8, [.d (.int .u64 0)], false⟩ := rfl
theorem T21 : T 21 = some ⟨.int .i32, 1, 4, [.d (.int .i32 0)], false⟩ := rfl
theorem T22 : T 22 = some ⟨.slice 41, 1, 24, [.nil], false⟩ := rfl
theorem T23 : T 23 = some ⟨.slice 63, 1, 24, [.nil], false⟩ := rfl
theorem T24 : T 24 = some ⟨.struct [(0, 22), (1, 23)], 2, 48, [.nil, .nil], false⟩ := rfl
theorem T25 : T 25 = some ⟨.struct [(0, 22), (1, 23)], 2, 48, [.nil, .nil], false⟩ := rfl
theorem T26 : T 26 = some ⟨.slice 5, 1, 24, [.nil], false⟩ := rfl
theorem T27 : T 27 = some ⟨.other, 1, 8, [.d .nilfn], false⟩ := rfl
theorem T28 : T 28 = some ⟨.other, 1, 8, [.d .nilfn], false⟩ := rfl
theorem T29 : T 29 = some ⟨.int .i64, 1, 8, [.d (.int .i64 0)], false⟩ := rfl
theorem T31 : T 31 = some ⟨.other, 1, 8, [.d .nilfn], false⟩ := rfl
theorem T33 : T 33 = some ⟨.other, 1, 8, [.d .nilfn], false⟩ := rfl
theorem T34 : T 34 = some ⟨.other, 1, 8, [.d .nilfn], false⟩ := rfl
theorem T35 : T 35 = some ⟨.other, 1, 8, [.d .nilfn], false⟩ := rfl
theorem T36 : T 36 = some ⟨.other, 1, 8, [.d .nilfn], false⟩ := rfl
theorem T37 : T 37 = some ⟨.struct [(0, 3), (1, 3)], 2, 16, [.d (.int .i64 0), .d (.int .i64 0)], true⟩ := rfl
theorem T38 : T 38 = some ⟨.struct [(0, 3), (1, 3)], 2, 16, [.d (.int .i64 0), .d (.int .i64 0)], true⟩ := rfl
theorem T39 : T 39 = some ⟨.slice 47, 1, 24, [.nil], false⟩ := rfl
theorem T40 : T 40 = some ⟨.struct [(0, 38), (2, 39)], 3, 40, [.d (.int .i64 0), .d (.int .i64 0), .nil], false⟩ := rfl
theorem T41 : T 41 = some ⟨.struct [(0, 38), (2, 39)], 3, 40, [.d (.int .i64 0), .d (.int .i64 0), .nil], false⟩ := rfl
theorem T42 : T 42 = some ⟨.slice 56, 1, 24, [.nil], false⟩ := rfl
theorem T44 : T 44 = some ⟨.other, 1, 8, [.d .nilfn], false⟩ := rfl
theorem T45 : T 45 = some ⟨.slice 61, 1, 24, [.nil], false⟩ := rfl
theorem T46 : T 46 = some ⟨.struct [(0, 3), (1, 3), (2, 3), (3, 45)], 4, 48, [.d (.int .i64 0), .d (.int .i64 0), .d (.int .i64 0), .nil], false⟩ := rfl
theorem T47 : T 47 = some ⟨.struct [(0, 3), (1, 3), (2, 3), (3, 45)], 4, 48, [.d (.int .i64 0), .d (.int .i64 0), .d (.int .i64 0), .nil], false⟩ := rfl
theorem T48 : T 48 = some ⟨.struct [(0, 3), (1, 3), (2, 3), (3, 3), (4, 47)], 8, 80, [.d (.int .i64 0), .d (.int .i64 0), .d (.int .i64 0), .d (.int .i64 0), .d (.int .i64 0), .d (.int .i64 0), .d (.int .i64 0), .nil], false⟩ := rfl
theorem T49 : T 49 = some ⟨.struct [(0, 3), (1, 3), (2, 3), (3, 3), (4, 47)], 8, 80, [.d (.int .i64 0), .d (.int .i64 0), .d (.int .i64 0), .d (.int .i64 0), .d (.int .i64 0), .d (.int .i64 0), .d (.int .i64 0), .nil], false⟩ := rfl
theorem T50 : T 50 = some ⟨.slice 49, 1, 24, [.nil], false⟩ := rfl
theorem T51 : T 51 = some ⟨.slice 50, 1, 24, [.nil], false⟩ := rfl
theorem T52 : T 52 = some ⟨.slice 87, 1, 24, [.nil], false⟩ := rfl
theorem T53 : T 53 = some ⟨.slice 3, 1, 24, [.nil], false⟩ := rfl
theorem T54 : T 54 = some ⟨.slice 58, 1, 24, [.nil], false⟩ := rfl
theorem T55 : T 55 = some ⟨.struct [(0, 52), (1, 53), (2, 54)], 3, 72, [.nil, .nil, .nil], false⟩ := rfl
theorem T56 : T 56 = some ⟨.struct [(0, 52), (1, 53), (2, 54)], 3, 72, [.nil, .nil, .nil], false⟩ := rfl
theorem T57 : T 57 = some ⟨.struct [(0, 3), (1, 3), (2, 3)], 3, 24, [.d (.int .i64 0), .d (.int .i64 0), .d (.int .i64 0)], true⟩ := rfl
theorem T58 : T 58 = some ⟨.struct [(0, 3), (1, 3), (2, 3)], 3, 24, [.d (.int .i64 0), .d (.int .i64 0), .d (.int .i64 0)], true⟩ := rfl
theorem T59 : T 59 = some ⟨.other, 1, 8, [.d .nilfn], false⟩ := rfl
theorem T60 : T 60 = some ⟨.struct [(0, 3), (1, 3), (2, 3)], 3, 24, [.d (.int .i64 0), .d (.int .i64 0), .d (.int .i64 0)], true⟩ := rfl
theorem T61 : T 61 = some ⟨.struct [(0, 3), (1, 3), (2, 3)], 3, 24, [.d (.int .i64 0), .d (.int .i64 0), .d (.int .i64 0)], true⟩ := rfl
theorem T62 : T 62 = some ⟨.struct [(0, 3), (1, 3), (2, 3)], 3, 24, [.d (.int .i64 0), .d (.int .i64 0), .d (.int .i64 0)], true⟩ := rfl
theorem T63 : T 63 = some ⟨.struct [(0, 3), (1, 3), (2, 3)], 3, 24, [.d (.int .i64 0), .d (.int .i64 0), .d (.int .i64 0)], true⟩ := rfl
theorem T64 : T 64 = some ⟨.other, 1, 8, [.nilptr], false⟩ := rfl
theorem T65 : T 65 = some ⟨.struct [(0, 26), (1, 3), (2, 29)], 3, 40, [.nil, .d (.int .i64 0), .d (.int .i64 0)], false⟩ := rfl
theorem T66 : T 66 = some ⟨.struct [(0, 26), (1, 3), (2, 29)], 3, 40, [.nil, .d (.int .i64 0), .d (.int .i64 0)], false⟩ := rfl
theorem T67 : T 67 = some ⟨.other, 1, 8, [.d .nilfn], false⟩ := rfl
theorem T68 : T 68 = some ⟨.other, 1, 8, [.d .nilfn], false⟩ := rfl
theorem T69 : T 69 = some ⟨.other, 1, 8, [.d .nilfn], false⟩ := rfl
theorem T70 : T 70 = some ⟨.other, 1, 8, [.d .nilfn], false⟩ := rfl
theorem T71 : T 71 = some ⟨.other, 1, 8, [.d .nilfn], false⟩ := rfl
theorem T72 : T 72 = some ⟨.other, 1, 8, [.d .nilfn], false⟩ := rfl
theorem T73 : T 73 = some ⟨.slice 147, 1, 24, [.nil], false⟩ := rfl
theorem T74 : T 74 = some ⟨.struct [(0, 3), (1, 73)], 2, 32, [.d (.int .i64 0), .nil], false⟩ := rfl
theorem T75 : T 75 = some ⟨.struct [(0, 3), (1, 73)], 2, 32, [.d (.int .i64 0), .nil], false⟩ := rfl
theorem T76 : T 76 = some ⟨.slice 38, 1, 24, [.nil], false⟩ := rfl
theorem T77 : T 77 = some ⟨.slice 93, 1, 24, [.nil], false⟩ := rfl
theorem T78 : T 78 = some ⟨.slice 119, 1, 24, [.nil], false⟩ := rfl
theorem T79 : T 79 = some ⟨.struct [(0, 75), (2, 76), (3, 77), (4, 78), (5, 3)], 6, 112, [.d (.int .i64 0), .nil, .nil, .nil, .nil, .d (.int .i64 0)], false⟩ := rfl
theorem T80 : T 80 = some ⟨.struct [(0, 75), (2, 76), (3, 77), (4, 78), (5, 3)], 6, 112, [.d (.int .i64 0), .nil, .nil, .nil, .nil, .d (.int .i64 0)], false⟩ := rfl
theorem T82 : T 82 = some ⟨.other, 1, 8, [.d .nilfn], false⟩ := rfl
theorem T83 : T 83 = some ⟨.other, 1, 8, [.d .nilfn], false⟩ := rfl
theorem T85 : T 85 = some ⟨.other, 1, 8, [.d .nilfn], false⟩ := rfl
theorem T86 : T 86 = some ⟨.struct [(0, 3), (1, 3), (2, 29)], 3, 24, [.d (.int .i64 0), .d (.int .i64 0), .d (.int .i64 0)], true⟩ := rfl
theorem T87 : T 87 = some ⟨.struct [(0, 3), (1, 3), (2, 29)], 3, 24, [.d (.int .i64 0), .d (.int .i64 0), .d (.int .i64 0)], true⟩ := rfl
theorem T89 : T 89 = some ⟨.other, 1, 8, [.d .nilfn], false⟩ := rfl
theorem T90 : T 90 = some ⟨.slice 4, 1, 24, [.nil], false⟩ := rfl
theorem T91 : T 91 = some ⟨.slice 175, 1, 24, [.nil], false⟩ := rfl
theorem T92 : T 92 = some ⟨.struct [(0, 39), (1, 90), (2, 53), (3, 91), (4, 54)], 5, 120, [.nil, .nil, .nil, .nil, .nil], false⟩ := rfl
theorem T93 : T 93 = some ⟨.struct [(0, 39), (1, 90), (2, 53), (3, 91), (4, 54)], 5, 120, [.nil, .nil, .nil, .nil, .nil], false⟩ := rfl
theorem T94 : T 94 = some ⟨.other, 1, 8, [.d .nilfn], false⟩ := rfl
theorem T96 : T 96 = some ⟨.other, 1, 8, [.d .nilfn], false⟩ := rfl
theorem T97 : T 97 = some ⟨.other, 1, 8, [.d .nilfn], false⟩ := rfl
theorem T98 : T 98 = some ⟨.other, 1, 8, [.d .nilfn], false⟩ := rfl
theorem T99 : T 99 = some ⟨.other, 1, 8, [.d .nilfn], false⟩ := rfl
theorem T101 : T 101 = some ⟨.other, 1, 8, [.d .nilfn], false⟩ := rfl
theorem T103 : T 103 = some ⟨.other, 1, 8, [.d .nilfn], false⟩ := rfl
theorem T104 : T 104 = some ⟨.other, 1, 8, [.d .nilfn], false⟩ := rfl
theorem T106 : T 106 = some ⟨.other, 1, 8, [.d .nilfn], false⟩ := rfl
theorem T107 : T 107 = some ⟨.other, 1, 8, [.d .nilfn], false⟩ := rfl
theorem T108 : T 108 = some ⟨.other, 1, 8, [.d .nilfn], false⟩ := rfl
theorem T110 : T 110 = some ⟨.other, 1, 8, [.d .nilfn], false⟩ := rfl
theorem T111 : T 111 = some ⟨.other, 1, 8, [.d .nilfn], false⟩ := rfl
theorem T112 : T 112 = some ⟨.other, 1, 8, [.d .nilfn], false⟩ := rfl
theorem T113 : T 113 = some ⟨.other, 1, 8, [.d .nilfn], false⟩ := rfl
theorem T114 : T 114 = some ⟨.struct [(0, 53), (1, 3), (2, 3)], 3, 40, [.nil, .d (.int .i64 0), .d (.int .i64 0)], false⟩ := rfl
theorem T115 : T 115 = some ⟨.struct [(0, 53), (1, 3), (2, 3)], 3, 40, [.nil, .d (.int .i64 0), .d (.int .i64 0)], false⟩ := rfl
theorem T117 : T 117 = some ⟨.other, 1, 8, [.d .nilfn], false⟩ := rfl
theorem T118 : T 118 = some ⟨.struct [(0, 63), (3, 115), (6, 115)], 9, 104, [.d (.int .i64 0), .d (.int .i64 0), .d (.int .i64 0), .nil, .d (.int .i64 0), .d (.int .i64 0), .nil, .d (.int .i64 0), .d (.int .i64 0)], false⟩ := rfl
theorem T119 : T 119 = some ⟨.struct [(0, 63), (3, 115), (6, 115)], 9, 104, [.d (.int .i64 0), .d (.int .i64 0), .d (.int .i64 0), .nil, .d (.int .i64 0), .d (.int .i64 0), .nil, .d (.int .i64 0), .d (.int .i64 0)], false⟩ := rfl
theorem T120 : T 120 = some ⟨.other, 1, 8, [.d .nilfn], false⟩ := rfl
theorem T121 : T 121 = some ⟨.other, 1, 8, [.d .nilfn], false⟩ := rfl
theorem T123 : T 123 = some ⟨.other, 1, 8, [.d .nilfn], false⟩ := rfl
theorem T124 : T 124 = some ⟨.other, 1, 8, [.d .nilfn], false⟩ := rfl
theorem T125 : T 125 = some ⟨.other, 1, 8, [.d .nilfn], false⟩ := rfl
theorem T126 : T 126 = some ⟨.other, 1, 8, [.d .nilfn], false⟩ := rfl
theorem T127 : T 127 = some ⟨.other, 1, 8, [.d .nilfn], false⟩ := rfl
theorem T128 : T 128 = some ⟨.other, 1, 8, [.d .nilfn], false⟩ := rfl
theorem T129 : T 129 = some ⟨.other, 1, 8, [.d .nilfn], false⟩ := rfl
theorem T130 : T 130 = some ⟨.other, 1, 8, [.d .nilfn], false⟩ := rfl
theorem T131 : T 131 = some ⟨.other, 1, 8, [.d .nilfn], false⟩ := rfl
theorem T132 : T 132 = some ⟨.other, 1, 8, [.d .nilfn], false⟩ := rfl
theorem T133 : T 133 = some ⟨.other, 1, 8, [.d .nilfn], false⟩ := rfl
theorem T134 : T 134 = some ⟨.other, 1, 8, [.d .nilfn], false⟩ := rfl
theorem T135 : T 135 = some ⟨.other, 1, 8, [.d .nilfn], false⟩ := rfl
theorem T136 : T 136 = some ⟨.other, 1, 8, [.d .nilfn], false⟩ := rfl
theorem T137 : T 137 = some ⟨.other, 1, 8, [.d .nilfn], false⟩ := rfl
theorem T138 : T 138 = some ⟨.other, 1, 8, [.d .nilfn], false⟩ := rfl
theorem T139 : T 139 = some ⟨.other, 1, 8, [.d .nilfn], false⟩ := rfl
theorem T141 : T 141 = some ⟨.other, 1, 8, [.d .nilfn], false⟩ := rfl
theorem T143 : T 143 = some ⟨.other, 1, 8, [.d .nilfn], false⟩ := rfl
theorem T144 : T 144 = some ⟨.other, 1, 8, [.d .nilfn], false⟩ := rfl
theorem T145 : T 145 = some ⟨.other, 1, 8, [.d .nilfn], false⟩ := rfl
theorem T146 : T 146 = some ⟨.struct [(0, 3), (1, 3), (2, 3)], 3, 24, [.d (.int .i64 0), .d (.int .i64 0), .d (.int .i64 0)], true⟩ := rfl
theorem T147 : T 147 = some ⟨.struct [(0, 3), (1, 3), (2, 3)], 3, 24, [.d (.int .i64 0), .d (.int .i64 0), .d (.int .i64 0)], true⟩ := rfl
theorem T148 : T 148 = some ⟨.other, 1, 8, [.d .nilfn], false⟩ := rfl
theorem T149 : T 149 = some ⟨.other, 1, 8, [.nilptr], false⟩ := rfl
theorem T150 : T 150 = some ⟨.other, 1, 8, [.d .nilfn], false⟩ := rfl
theorem T151 : T 151 = some ⟨.struct [(0, 54), (1, 3)], 2, 32, [.nil, .d (.int .i64 0)], false⟩ := rfl
theorem T152 : T 152 = some ⟨.struct [(0, 54), (1, 3)], 2, 32, [.nil, .d (.int .i64 0)], false⟩ := rfl
theorem T153 : T 153 = some ⟨.struct [(0, 152), (2, 93)], 7, 152, [.nil, .d (.int .i64 0), .nil, .nil, .nil, .nil, .nil], false⟩ := rfl
theorem T154 : T 154 = some ⟨.struct [(0, 152), (2, 93)], 7, 152, [.nil, .d (.int .i64 0), .nil, .nil, .nil, .nil, .nil], false⟩ := rfl
theorem T155 : T 155 = some ⟨.other, 1, 8, [.d .nilfn], false⟩ := rfl
theorem T156 : T 156 = some ⟨.other, 1, 8, [.d .nilfn], false⟩ := rfl
theorem T157 : T 157 = some ⟨.other, 1, 8, [.d .nilfn], false⟩ := rfl
theorem T159 : T 159 = some ⟨.other, 1, 8, [.d .nilfn], false⟩ := rfl
theorem T160 : T 160 = some ⟨.other, 1, 8, [.nilptr], false⟩ := rfl
theorem T161 : T 161 = some ⟨.struct [(0, 76), (1, 53)], 2, 48, [.nil, .nil], false⟩ := rfl
theorem T162 : T 162 = some ⟨.struct [(0, 76), (1, 53)], 2, 48, [.nil, .nil], false⟩ := rfl
theorem T163 : T 163 = some ⟨.other, 1, 8, [.d .nilfn], false⟩ := rfl
theorem T164 : T 164 = some ⟨.other, 1, 8, [.d .nilfn], false⟩ := rfl
theorem T165 : T 165 = some ⟨.slice 126, 1, 24, [.nil], false⟩ := rfl
theorem T167 : T 167 = some ⟨.other, 1, 8, [.d .nilfn], false⟩ := rfl
theorem T168 : T 168 = some ⟨.other, 1, 8, [.d .nilfn], false⟩ := rfl
theorem T169 : T 169 = some ⟨.other, 1, 8, [.d .nilfn], false⟩ := rfl
theorem T170 : T 170 = some ⟨.other, 1, 8, [.d .nilfn], false⟩ := rfl
theorem T171 : T 171 = some ⟨.other, 1, 8, [.d .nilfn], false⟩ := rfl
theorem T172 : T 172 = some ⟨.other, 1, 8, [.d .nilfn], false⟩ := rfl
theorem T173 : T 173 = some ⟨.other, 1, 8, [.d .nilfn], false⟩ := rfl
theorem T174 : T 174 = some ⟨.struct [(0, 3), (1, 3), (2, 3), (3, 3), (4, 3), (5, 4)], 6, 48, [.d (.int .i64 0), .d (.int .i64 0), .d (.int .i64 0), .d (.int .i64 0), .d (.int .i64 0), .d (.bool false)], true⟩ := rfl
theorem T175 : T 175 = some ⟨.struct [(0, 3), (1, 3), (2, 3), (3, 3), (4, 3), (5, 4)], 6, 48, [.d (.int .i64 0), .d (.int .i64 0), .d (.int .i64 0), .d (.int .i64 0), .d (.int .i64 0), .d (.bool false)], true⟩ := rfl
theorem T176 : T 176 = some ⟨.other, 1, 8, [.d .nilfn], false⟩ := rfl
theorem T177 : T 177 = some ⟨.other, 1, 8, [.d .nilfn], false⟩ := rfl
theorem T178 : T 178 = some ⟨.other, 1, 8, [.d .nilfn], false⟩ := rfl
theorem T179 : T 179 = some ⟨.other, 1, 8, [.d .nilfn], false⟩ := rfl
theorem T181 : T 181 = some ⟨.other, 1, 8, [.d .nilfn], false⟩ := rfl
theorem T182 : T 182 = some ⟨.other, 1, 8, [.d .nilfn], false⟩ := rfl
theorem T183 : T 183 = some ⟨.other, 1, 8, [.d .nilfn], false⟩ := rfl
theorem T184 : T 184 = some ⟨.other, 1, 8, [.d .nilfn], false⟩ := rfl
theorem T185 : T 185 = some ⟨.other, 1, 8, [.d .nilfn], false⟩ := rfl
theorem T187 : T 187 = some ⟨.other, 1, 8, [.d .nilfn], false⟩ := rfl
theorem T189 : T 189 = some ⟨.other, 1, 8, [.d .nilfn], false⟩ := rfl
theorem T190 : T 190 = some ⟨.other, 1, 8, [.d .nilfn], false⟩ := rfl
theorem T191 : T 191 = some ⟨.other, 1, 8, [.d .nilfn], false⟩ := rfl
theorem T192 : T 192 = some ⟨.other, 1, 8, [.nilptr], false⟩ := rfl
theorem T193 : T 193 = some ⟨.other, 1, 8, [.d .nilfn], false⟩ := rfl
theorem T194 : T 194 = some ⟨.other, 1, 8, [.d .nilfn], false⟩ := rfl
theorem T195 : T 195 = some ⟨.other, 1, 8, [.d .nilfn], false⟩ := rfl
theorem T196 : T 196 = some ⟨.other, 1, 8, [.d .nilfn], false⟩ := rfl
theorem T197 : T 197 = some ⟨.other, 1, 8, [.d .nilfn], false⟩ := rfl
theorem T198 : T 198 = some ⟨.other, 1, 8, [.d .nilfn], false⟩ := rfl
theorem T199 : T 199 = some ⟨.other, 1, 8, [.d .nilfn], false⟩ := rfl
theorem T200 : T 200 = some ⟨.other, 1, 8, [.d .nilfn], false⟩ := rfl
theorem T201 : T 201 = some ⟨.other, 1, 8, [.d .nilfn], false⟩ := rfl
theorem T202 : T 202 = some ⟨.other, 1, 8, [.d .nilfn], false⟩ := rfl
theorem T203 : T 203 = some ⟨.other, 1, 8, [.d .nilfn], false⟩ := rfl
theorem T204 : T 204 = some ⟨.other, 1, 8, [.d .nilfn], false⟩ := rfl
theorem T205 : T 205 = some ⟨.other, 1, 8, [.d .nilfn], false⟩ := rfl
theorem T206 : T 206 = some ⟨.other, 1, 8, [.d .nilfn], false⟩ := rfl
theorem T207 : T 207 = some ⟨.other, 1, 8, [.d .nilfn], false⟩ := rfl
theorem T208 : T 208 = some ⟨.other, 1, 8, [.d .nilfn], false⟩ := rfl
theorem T209 : T 209 = some ⟨.other, 1, 8, [.d .nilfn], false⟩ := rfl
theorem T210 : T 210 = some ⟨.other, 1, 8, [.d .nilfn], false⟩ := rfl
theorem T211 : T 211 = some ⟨.other, 1, 8, [.d .nilfn], false⟩ := rfl
theorem T212 : T 212 = some ⟨.other, 1, 8, [.d .nilfn], false⟩ := rfl
theorem T213 : T 213 = some ⟨.other, 1, 8, [.d .nilfn], false⟩ := rfl
theorem T214 : T 214 = some ⟨.other, 1, 8, [.d .nilfn], false⟩ := rfl
theorem T215 : T 215 = some ⟨.other, 1, 8, [.d .nilfn], false⟩ := rfl
theorem T221 : T 221 = some ⟨.int .u32, 1, 4, [.d (.int .u32 0)], false⟩ := rfl
theorem T225 : T 225 = some ⟨.other, 1, 8, [.nilptr], false⟩ := rfl
def cV : LV → Value
  | .d (.int k n) => .int k n
  | .d (.bool b) => .bool b
  | .d (.str s) => .string s
  | .nil => .slice none 0 0
  | .nilptr => .pointer none
  | _ => .nilFunc
def zV (i : TI) : Value := match i.k with | .struct _ => .agg (i.zero.map cV).toArray | _ => cV (i.zero.headD .nil)
theorem oT {t : TypeId} {i : TI} {d : TypeDesc} (hd : Tryz.prog.underlying t = some d) (hk : DescOk d i.k) (hi : (Tryz.prog.info? t).map (fun j => (j.zero, j.size, j.bytes)) = some (some (zV i), i.size, i.bytes))
    (hz : (zV i).cells.toList.map constL = i.zero) (hs : (zV i).cells.size = i.size) (h1 : (zV i).cells.toList.all (·.oneCell') = true) : TIok Tryz.prog t i := TIok.of (zV i) hd hk hi hz hs h1
theorem eq37 : EqTells Tryz.prog 37 [some .i64, some .i64] := eqTells_of (F := _) Tryz.underlying37 (by kernel_rfl) (by kernel_rfl) (fun i f h => by
  rcases i with _ | i
  · cases h; exact ⟨by decide, rfl, _, rfl, Tryz.underlying3⟩
  rcases i with _ | i
  · cases h; exact ⟨by decide, rfl, _, rfl, Tryz.underlying3⟩
  simp at h) rfl
theorem eq38 : EqTells Tryz.prog 38 [some .i64, some .i64] := eqTells_of (F := _) Tryz.underlying38 (by kernel_rfl) (by kernel_rfl) (fun i f h => by
  rcases i with _ | i
  · cases h; exact ⟨by decide, rfl, _, rfl, Tryz.underlying3⟩
  rcases i with _ | i
  · cases h; exact ⟨by decide, rfl, _, rfl, Tryz.underlying3⟩
  simp at h) rfl
theorem eq57 : EqTells Tryz.prog 57 [some .i64, some .i64, some .i64] := eqTells_of (F := _) Tryz.underlying57 (by kernel_rfl) (by kernel_rfl) (fun i f h => by
  rcases i with _ | i
  · cases h; exact ⟨by decide, rfl, _, rfl, Tryz.underlying3⟩
  rcases i with _ | i
  · cases h; exact ⟨by decide, rfl, _, rfl, Tryz.underlying3⟩
  rcases i with _ | i
  · cases h; exact ⟨by decide, rfl, _, rfl, Tryz.underlying3⟩
  simp at h) rfl
theorem eq58 : EqTells Tryz.prog 58 [some .i64, some .i64, some .i64] := eqTells_of (F := _) Tryz.underlying58 (by kernel_rfl) (by kernel_rfl) (fun i f h => by
  rcases i with _ | i
  · cases h; exact ⟨by decide, rfl, _, rfl, Tryz.underlying3⟩
  rcases i with _ | i
  · cases h; exact ⟨by decide, rfl, _, rfl, Tryz.underlying3⟩
  rcases i with _ | i
  · cases h; exact ⟨by decide, rfl, _, rfl, Tryz.underlying3⟩
  simp at h) rfl
theorem eq60 : EqTells Tryz.prog 60 [some .i64, some .i64, some .i64] := eqTells_of (F := _) Tryz.underlying60 (by kernel_rfl) (by kernel_rfl) (fun i f h => by
  rcases i with _ | i
  · cases h; exact ⟨by decide, rfl, _, rfl, Tryz.underlying3⟩
  rcases i with _ | i
  · cases h; exact ⟨by decide, rfl, _, rfl, Tryz.underlying3⟩
  rcases i with _ | i
  · cases h; exact ⟨by decide, rfl, _, rfl, Tryz.underlying3⟩
  simp at h) rfl
theorem eq61 : EqTells Tryz.prog 61 [some .i64, some .i64, some .i64] := eqTells_of (F := _) Tryz.underlying61 (by kernel_rfl) (by kernel_rfl) (fun i f h => by
  rcases i with _ | i
  · cases h; exact ⟨by decide, rfl, _, rfl, Tryz.underlying3⟩
  rcases i with _ | i
  · cases h; exact ⟨by decide, rfl, _, rfl, Tryz.underlying3⟩
  rcases i with _ | i
  · cases h; exact ⟨by decide, rfl, _, rfl, Tryz.underlying3⟩
  simp at h) rfl
theorem eq62 : EqTells Tryz.prog 62 [some .i64, some .i64, some .i64] := eqTells_of (F := _) Tryz.underlying62 (by kernel_rfl) (by kernel_rfl) (fun i f h => by
  rcases i with _ | i
  · cases h; exact ⟨by decide, rfl, _, rfl, Tryz.underlying3⟩
  rcases i with _ | i
  · cases h; exact ⟨by decide, rfl, _, rfl, Tryz.underlying3⟩
  rcases i with _ | i
  · cases h; exact ⟨by decide, rfl, _, rfl, Tryz.underlying3⟩
  simp at h) rfl
theorem eq63 : EqTells Tryz.prog 63 [some .i64, some .i64, some .i64] := eqTells_of (F := _) Tryz.underlying63 (by kernel_rfl) (by kernel_rfl) (fun i f h => by
  rcases i with _ | i
  · cases h; exact ⟨by decide, rfl, _, rfl, Tryz.underlying3⟩
  rcases i with _ | i
  · cases h; exact ⟨by decide, rfl, _, rfl, Tryz.underlying3⟩
  rcases i with _ | i
  · cases h; exact ⟨by decide, rfl, _, rfl, Tryz.underlying3⟩
  simp at h) rfl
theorem eq86 : EqTells Tryz.prog 86 [some .i64, some .i64, some .i64] := eqTells_of (F := _) Tryz.underlying86 (by kernel_rfl) (by kernel_rfl) (fun i f h => by
  rcases i with _ | i
  · cases h; exact ⟨by decide, rfl, _, rfl, Tryz.underlying3⟩
  rcases i with _ | i
  · cases h; exact ⟨by decide, rfl, _, rfl, Tryz.underlying3⟩
  rcases i with _ | i
  · cases h; exact ⟨by decide, rfl, _, rfl, Tryz.underlying29⟩
  simp at h) rfl
theorem eq87 : EqTells Tryz.prog 87 [some .i64, some .i64, some .i64] := eqTells_of (F := _) Tryz.underlying87 (by kernel_rfl) (by kernel_rfl) (fun i f h => by
  rcases i with _ | i
  · cases h; exact ⟨by decide, rfl, _, rfl, Tryz.underlying3⟩
  rcases i with _ | i
  · cases h; exact ⟨by decide, rfl, _, rfl, Tryz.underlying3⟩
  rcases i with _ | i
  · cases h; exact ⟨by decide, rfl, _, rfl, Tryz.underlying29⟩
  simp at h) rfl
theorem eq146 : EqTells Tryz.prog 146 [some .i64, some .i64, some .i64] := eqTells_of (F := _) Tryz.underlying146 (by kernel_rfl) (by kernel_rfl) (fun i f h => by
  rcases i with _ | i
  · cases h; exact ⟨by decide, rfl, _, rfl, Tryz.underlying3⟩
  rcases i with _ | i
  · cases h; exact ⟨by decide, rfl, _, rfl, Tryz.underlying3⟩
  rcases i with _ | i
  · cases h; exact ⟨by decide, rfl, _, rfl, Tryz.underlying3⟩
  simp at h) rfl
theorem eq147 : EqTells Tryz.prog 147 [some .i64, some .i64, some .i64] := eqTells_of (F := _) Tryz.underlying147 (by kernel_rfl) (by kernel_rfl) (fun i f h => by
  rcases i with _ | i
  · cases h; exact ⟨by decide, rfl, _, rfl, Tryz.underlying3⟩
  rcases i with _ | i
  · cases h; exact ⟨by decide, rfl, _, rfl, Tryz.underlying3⟩
  rcases i with _ | i
  · cases h; exact ⟨by decide, rfl, _, rfl, Tryz.underlying3⟩
  simp at h) rfl
theorem eq174 : EqTells Tryz.prog 174 [some .i64, some .i64, some .i64, some .i64, some .i64, none] := eqTells_of (F := _) Tryz.underlying174 (by kernel_rfl) (by kernel_rfl) (fun i f h => by
  rcases i with _ | i
  · cases h; exact ⟨by decide, rfl, _, rfl, Tryz.underlying3⟩
  rcases i with _ | i
  · cases h; exact ⟨by decide, rfl, _, rfl, Tryz.underlying3⟩
  rcases i with _ | i
  · cases h; exact ⟨by decide, rfl, _, rfl, Tryz.underlying3⟩
  rcases i with _ | i
  · cases h; exact ⟨by decide, rfl, _, rfl, Tryz.underlying3⟩
  rcases i with _ | i
  · cases h; exact ⟨by decide, rfl, _, rfl, Tryz.underlying3⟩
  rcases i with _ | i
  · cases h; exact ⟨by decide, rfl, _, rfl, Tryz.underlying4⟩
  simp at h) rfl
theorem eq175 : EqTells Tryz.prog 175 [some .i64, some .i64, some .i64, some .i64, some .i64, none] := eqTells_of (F := _) Tryz.underlying175 (by kernel_rfl) (by kernel_rfl) (fun i f h => by
  rcases i with _ | i
  · cases h; exact ⟨by decide, rfl, _, rfl, Tryz.underlying3⟩
  rcases i with _ | i
  · cases h; exact ⟨by decide, rfl, _, rfl, Tryz.underlying3⟩
  rcases i with _ | i
  · cases h; exact ⟨by decide, rfl, _, rfl, Tryz.underlying3⟩
  rcases i with _ | i
  · cases h; exact ⟨by decide, rfl, _, rfl, Tryz.underlying3⟩
  rcases i with _ | i
  · cases h; exact ⟨by decide, rfl, _, rfl, Tryz.underlying3⟩
  rcases i with _ | i
  · cases h; exact ⟨by decide, rfl, _, rfl, Tryz.underlying4⟩
  simp at h) rfl
theorem tab : TabOk Tryz.prog T := by
  refine TabOk.of (by kernel_rfl) (assoc_all (l := tl) (Q := fun t i => TIok Tryz.prog t i) ?_) (assoc_all (l := tl) (Q := fun t i => i.eq = true → ∀ ks, i.kds = some ks → EqTells Tryz.prog t ks) ?_) (fun t i fs h hk => assoc_all (l := tl) (Q := fun _ i => ∀ fs, i.k = .struct fs → fs.all (fun x => (T x.2).isSome) = true) ?_ t i h fs hk)
  · simp only [tl, List.forall_mem_cons, List.not_mem_nil, false_implies, implies_true, and_true]
    exact ⟨oT Tryz.underlying1 (rfl) (by kernel_rfl) rfl rfl rfl, oT Tryz.underlying2 (rfl) (by kernel_rfl) rfl rfl rfl, oT Tryz.underlying3 (rfl) (by kernel_rfl) rfl rfl rfl, oT Tryz.underlying4 (rfl) (by kernel_rfl) rfl rfl rfl, oT Tryz.underlying5 (rfl) (by kernel_rfl) rfl rfl rfl, oT Tryz.underlying9 (rfl) (by kernel_rfl) rfl rfl rfl, oT Tryz.underlying12 (rfl) (by kernel_rfl) rfl rfl rfl, oT Tryz.underlying21 (rfl) (by kernel_rfl) rfl rfl rfl, oT Tryz.underlying22 (rfl) (by kernel_rfl) rfl rfl rfl, oT Tryz.underlying23 (rfl) (by kernel_rfl) rfl rfl rfl, oT Tryz.underlying24 (fields_of rfl) (by kernel_rfl) rfl rfl rfl, oT Tryz.underlying25 (fields_of rfl) (by kernel_rfl) rfl rfl rfl, oT Tryz.underlying26 (rfl) (by kernel_rfl) rfl rfl rfl, oT Tryz.underlying27 (rfl) (by kernel_rfl) rfl rfl rfl, oT Tryz.underlying28 (rfl) (by kernel_rfl) rfl rfl rfl, oT Tryz.underlying29 (rfl) (by kernel_rfl) rfl rfl rfl, oT Tryz.underlying31 (rfl) (by kernel_rfl) rfl rfl rfl, oT Tryz.underlying33 (rfl) (by kernel_rfl) rfl rfl rfl, oT Tryz.underlying34 (rfl) (by kernel_rfl) rfl rfl rfl, oT Tryz.underlying35 (rfl) (by kernel_rfl) rfl rfl rfl, oT Tryz.underlying36 (rfl) (by kernel_rfl) rfl rfl rfl, oT Tryz.underlying37 (fields_of rfl) (by kernel_rfl) rfl rfl rfl, oT Tryz.underlying38 (fields_of rfl) (by kernel_rfl) rfl rfl rfl, oT Tryz.underlying39 (rfl) (by kernel_rfl) rfl rfl rfl, oT Tryz.underlying40 (fields_of rfl) (by kernel_rfl) rfl rfl rfl, oT Tryz.underlying41 (fields_of rfl) (by kernel_rfl) rfl rfl rfl, oT Tryz.underlying42 (rfl) (by kernel_rfl) rfl rfl rfl, oT Tryz.underlying44 (rfl) (by kernel_rfl) rfl rfl rfl, oT Tryz.underlying45 (rfl) (by kernel_rfl) rfl rfl rfl, oT Tryz.underlying46 (fields_of rfl) (by kernel_rfl) rfl rfl rfl, oT Tryz.underlying47 (fields_of rfl) (by kernel_rfl) rfl rfl rfl, oT Tryz.underlying48 (fields_of rfl) (by kernel_rfl) rfl rfl rfl, oT Tryz.underlying49 (fields_of rfl) (by kernel_rfl) rfl rfl rfl, oT Tryz.underlying50 (rfl) (by kernel_rfl) rfl rfl rfl, oT Tryz.underlying51 (rfl) (by kernel_rfl) rfl rfl rfl, oT Tryz.underlying52 (rfl) (by kernel_rfl) rfl rfl rfl, oT Tryz.underlying53 (rfl) (by kernel_rfl) rfl rfl rfl, oT Tryz.underlying54 (rfl) (by kernel_rfl) rfl rfl rfl, oT Tryz.underlying55 (fields_of rfl) (by kernel_rfl) rfl rfl rfl, oT Tryz.underlying56 (fields_of rfl) (by kernel_rfl) rfl rfl rfl, oT Tryz.underlying57 (fields_of rfl) (by kernel_rfl) rfl rfl rfl, oT Tryz.underlying58 (fields_of rfl) (by kernel_rfl) rfl rfl rfl, oT Tryz.underlying59 (rfl) (by kernel_rfl) rfl rfl rfl, oT Tryz.underlying60 (fields_of rfl) (by kernel_rfl) rfl rfl rfl, oT Tryz.underlying61 (fields_of rfl) (by kernel_rfl) rfl rfl rfl, oT Tryz.underlying62 (fields_of rfl) (by kernel_rfl) rfl rfl rfl, oT Tryz.underlying63 (fields_of rfl) (by kernel_rfl) rfl rfl rfl, oT Tryz.underlying64 (rfl) (by kernel_rfl) rfl rfl rfl, oT Tryz.underlying65 (fields_of rfl) (by kernel_rfl) rfl rfl rfl, oT Tryz.underlying66 (fields_of rfl) (by kernel_rfl) rfl rfl rfl, oT Tryz.underlying67 (rfl) (by kernel_rfl) rfl rfl rfl, oT Tryz.underlying68 (rfl) (by kernel_rfl) rfl rfl rfl, oT Tryz.underlying69 (rfl) (by kernel_rfl) rfl rfl rfl, oT Tryz.underlying70 (rfl) (by kernel_rfl) rfl rfl rfl, oT Tryz.underlying71 (rfl) (by kernel_rfl) rfl rfl rfl, oT Tryz.underlying72 (rfl) (by kernel_rfl) rfl rfl rfl, oT Tryz.underlying73 (rfl) (by kernel_rfl) rfl rfl rfl, oT Tryz.underlying74 (fields_of rfl) (by kernel_rfl) rfl rfl rfl, oT Tryz.underlying75 (fields_of rfl) (by kernel_rfl) rfl rfl rfl, oT Tryz.underlying76 (rfl) (by kernel_rfl) rfl rfl rfl, oT Tryz.underlying77 (rfl) (by kernel_rfl) rfl rfl rfl, oT Tryz.underlying78 (rfl) (by kernel_rfl) rfl rfl rfl, oT Tryz.underlying79 (fields_of rfl) (by kernel_rfl) rfl rfl rfl, oT Tryz.underlying80 (fields_of rfl) (by kernel_rfl) rfl rfl rfl, oT Tryz.underlying82 (rfl) (by kernel_rfl) rfl rfl rfl, oT Tryz.underlying83 (rfl) (by kernel_rfl) rfl rfl rfl, oT Tryz.underlying85 (rfl) (by kernel_rfl) rfl rfl rfl, oT Tryz.underlying86 (fields_of rfl) (by kernel_rfl) rfl rfl rfl, oT Tryz.underlying87 (fields_of rfl) (by kernel_rfl) rfl rfl rfl, oT Tryz.underlying89 (rfl) (by kernel_rfl) rfl rfl rfl, oT Tryz.underlying90 (rfl) (by kernel_rfl) rfl rfl rfl, oT Tryz.underlying91 (rfl) (by kernel_rfl) rfl rfl rfl, oT Tryz.underlying92 (fields_of rfl) (by kernel_rfl) rfl rfl rfl, oT Tryz.underlying93 (fields_of rfl) (by kernel_rfl) rfl rfl rfl, oT Tryz.underlying94 (rfl) (by kernel_rfl) rfl rfl rfl, oT Tryz.underlying96 (rfl) (by kernel_rfl) rfl rfl rfl, oT Tryz.underlying97 (rfl) (by kernel_rfl) rfl rfl rfl, oT Tryz.underlying98 (rfl) (by kernel_rfl) rfl rfl rfl, oT Tryz.underlying99 (rfl) (by kernel_rfl) rfl rfl rfl, oT Tryz.underlying101 (rfl) (by kernel_rfl) rfl rfl rfl, oT Tryz.underlying103 (rfl) (by kernel_rfl) rfl rfl rfl, oT Tryz.underlying104 (rfl) (by kernel_rfl) rfl rfl rfl, oT Tryz.underlying106 (rfl) (by kernel_rfl) rfl rfl rfl, oT Tryz.underlying107 (rfl) (by kernel_rfl) rfl rfl rfl, oT Tryz.underlying108 (rfl) (by kernel_rfl) rfl rfl rfl, oT Tryz.underlying110 (rfl) (by kernel_rfl) rfl rfl rfl, oT Tryz.underlying111 (rfl) (by kernel_rfl) rfl rfl rfl, oT Tryz.underlying112 (rfl) (by kernel_rfl) rfl rfl rfl, oT Tryz.underlying113 (rfl) (by kernel_rfl) rfl rfl rfl, oT Tryz.underlying114 (fields_of rfl) (by kernel_rfl) rfl rfl rfl, oT Tryz.underlying115 (fields_of rfl) (by kernel_rfl) rfl rfl rfl, oT Tryz.underlying117 (rfl) (by kernel_rfl) rfl rfl rfl, oT Tryz.underlying118 (fields_of rfl) (by kernel_rfl) rfl rfl rfl, oT Tryz.underlying119 (fields_of rfl) (by kernel_rfl) rfl rfl rfl, oT Tryz.underlying120 (rfl) (by kernel_rfl) rfl rfl rfl, oT Tryz.underlying121 (rfl) (by kernel_rfl) rfl rfl rfl, oT Tryz.underlying123 (rfl) (by kernel_rfl) rfl rfl rfl, oT Tryz.underlying124 (rfl) (by kernel_rfl) rfl rfl rfl, oT Tryz.underlying125 (rfl) (by kernel_rfl) rfl rfl rfl, oT Tryz.underlying126 (rfl) (by kernel_rfl) rfl rfl rfl, oT Tryz.underlying127 (rfl) (by kernel_rfl) rfl rfl rfl, oT Tryz.underlying128 (rfl) (by kernel_rfl) rfl rfl rfl, oT Tryz.underlying129 (rfl) (by kernel_rfl) rfl rfl rfl, oT Tryz.underlying130 (rfl) (by kernel_rfl) rfl rfl rfl, oT Tryz.underlying131 (rfl) (by kernel_rfl) rfl rfl rfl, oT Tryz.underlying132 (rfl) (by kernel_rfl) rfl rfl rfl, oT Tryz.underlying133 (rfl) (by kernel_rfl) rfl rfl rfl, oT Tryz.underlying134 (rfl) (by kernel_rfl) rfl rfl rfl, oT Tryz.underlying135 (rfl) (by kernel_rfl) rfl rfl rfl, oT Tryz.underlying136 (rfl) (by kernel_rfl) rfl rfl rfl, oT Tryz.underlying137 (rfl) (by kernel_rfl) rfl rfl rfl, oT Tryz.underlying138 (rfl) (by kernel_rfl) rfl rfl rfl, oT Tryz.underlying139 (rfl) (by kernel_rfl) rfl rfl rfl, oT Tryz.underlying141 (rfl) (by kernel_rfl) rfl rfl rfl, oT Tryz.underlying143 (rfl) (by kernel_rfl) rfl rfl rfl, oT Tryz.underlying144 (rfl) (by kernel_rfl) rfl rfl rfl, oT Tryz.underlying145 (rfl) (by kernel_rfl) rfl rfl rfl, oT Tryz.underlying146 (fields_of rfl) (by kernel_rfl) rfl rfl rfl, oT Tryz.underlying147 (fields_of rfl) (by kernel_rfl) rfl rfl rfl, oT Tryz.underlying148 (rfl) (by kernel_rfl) rfl rfl rfl, oT Tryz.underlying149 (rfl) (by kernel_rfl) rfl rfl rfl, oT Tryz.underlying150 (rfl) (by kernel_rfl) rfl rfl rfl, oT Tryz.underlying151 (fields_of rfl) (by kernel_rfl) rfl rfl rfl, oT Tryz.underlying152 (fields_of rfl) (by kernel_rfl) rfl rfl rfl, oT Tryz.underlying153 (fields_of rfl) (by kernel_rfl) rfl rfl rfl, oT Tryz.underlying154 (fields_of rfl) (by kernel_rfl) rfl rfl rfl, oT Tryz.underlying155 (rfl) (by kernel_rfl) rfl rfl rfl, oT Tryz.underlying156 (rfl) (by kernel_rfl) rfl rfl rfl, oT Tryz.underlying157 (rfl) (by kernel_rfl) rfl rfl rfl, oT Tryz.underlying159 (rfl) (by kernel_rfl) rfl rfl rfl, oT Tryz.underlying160 (rfl) (by kernel_rfl) rfl rfl rfl, oT Tryz.underlying161 (fields_of rfl) (by kernel_rfl) rfl rfl rfl, oT Tryz.underlying162 (fields_of rfl) (by kernel_rfl) rfl rfl rfl, oT Tryz.underlying163 (rfl) (by kernel_rfl) rfl rfl rfl, oT Tryz.underlying164 (rfl) (by kernel_rfl) rfl rfl rfl, oT Tryz.underlying165 (rfl) (by kernel_rfl) rfl rfl rfl, oT Tryz.underlying167 (rfl) (by kernel_rfl) rfl rfl rfl, oT Tryz.underlying168 (rfl) (by kernel_rfl) rfl rfl rfl, oT Tryz.underlying169 (rfl) (by kernel_rfl) rfl rfl rfl, oT Tryz.underlying170 (rfl) (by kernel_rfl) rfl rfl rfl, oT Tryz.underlying171 (rfl) (by kernel_rfl) rfl rfl rfl, oT Tryz.underlying172 (rfl) (by kernel_rfl) rfl rfl rfl, oT Tryz.underlying173 (rfl) (by kernel_rfl) rfl rfl rfl, oT Tryz.underlying174 (fields_of rfl) (by kernel_rfl) rfl rfl rfl, oT Tryz.underlying175 (fields_of rfl) (by kernel_rfl) rfl rfl rfl, oT Tryz.underlying176 (rfl) (by kernel_rfl) rfl rfl rfl, oT Tryz.underlying177 (rfl) (by kernel_rfl) rfl rfl rfl, oT Tryz.underlying178 (rfl) (by kernel_rfl) rfl rfl rfl, oT Tryz.underlying179 (rfl) (by kernel_rfl) rfl rfl rfl, oT Tryz.underlying181 (rfl) (by kernel_rfl) rfl rfl rfl, oT Tryz.underlying182 (rfl) (by kernel_rfl) rfl rfl rfl, oT Tryz.underlying183 (rfl) (by kernel_rfl) rfl rfl rfl, oT Tryz.underlying184 (rfl) (by kernel_rfl) rfl rfl rfl, oT Tryz.underlying185 (rfl) (by kernel_rfl) rfl rfl rfl, oT Tryz.underlying187 (rfl) (by kernel_rfl) rfl rfl rfl, oT Tryz.underlying189 (rfl) (by kernel_rfl) rfl rfl rfl, oT Tryz.underlying190 (rfl) (by kernel_rfl) rfl rfl rfl, oT Tryz.underlying191 (rfl) (by kernel_rfl) rfl rfl rfl, oT Tryz.underlying192 (rfl) (by kernel_rfl) rfl rfl rfl, oT Tryz.underlying193 (rfl) (by kernel_rfl) rfl rfl rfl, oT Tryz.underlying194 (rfl) (by kernel_rfl) rfl rfl rfl, oT Tryz.underlying195 (rfl) (by kernel_rfl) rfl rfl rfl, oT Tryz.underlying196 (rfl) (by kernel_rfl) rfl rfl rfl, oT Tryz.underlying197 (rfl) (by kernel_rfl) rfl rfl rfl, oT Tryz.underlying198 (rfl) (by kernel_rfl) rfl rfl rfl, oT Tryz.underlying199 (rfl) (by kernel_rfl) rfl rfl rfl, oT Tryz.underlying200 (rfl) (by kernel_rfl) rfl rfl rfl, oT Tryz.underlying201 (rfl) (by kernel_rfl) rfl rfl rfl, oT Tryz.underlying202 (rfl) (by kernel_rfl) rfl rfl rfl, oT Tryz.underlying203 (rfl) (by kernel_rfl) rfl rfl rfl, oT Tryz.underlying204 (rfl) (by kernel_rfl) rfl rfl rfl, oT Tryz.underlying205 (rfl) (by kernel_rfl) rfl rfl rfl, oT Tryz.underlying206 (rfl) (by kernel_rfl) rfl rfl rfl, oT Tryz.underlying207 (rfl) (by kernel_rfl) rfl rfl rfl, oT Tryz.underlying208 (rfl) (by kernel_rfl) rfl rfl rfl, oT Tryz.underlying209 (rfl) (by kernel_rfl) rfl rfl rfl, oT Tryz.underlying210 (rfl) (by kernel_rfl) rfl rfl rfl, oT Tryz.underlying211 (rfl) (by kernel_rfl) rfl rfl rfl, oT Tryz.underlying212 (rfl) (by kernel_rfl) rfl rfl rfl, oT Tryz.underlying213 (rfl) (by kernel_rfl) rfl rfl rfl, oT Tryz.underlying214 (rfl) (by kernel_rfl) rfl rfl rfl, oT Tryz.underlying215 (rfl) (by kernel_rfl) rfl rfl rfl, oT Tryz.underlying221 (rfl) (by kernel_rfl) rfl rfl rfl, oT Tryz.underlying225 (rfl) (by kernel_rfl) rfl rfl rfl⟩
  · simp only [tl, List.forall_mem_cons, List.not_mem_nil, false_implies, implies_true, and_true]
    exact ⟨nofun, nofun, nofun, nofun, nofun, nofun, nofun, nofun, nofun, nofun, nofun, nofun, nofun, nofun, nofun, nofun, nofun, nofun, nofun, nofun, nofun, (fun _ ks h => by cases h; exact eq37), (fun _ ks h => by cases h; exact eq38), nofun, nofun, nofun, nofun, nofun, nofun, nofun, nofun, nofun, nofun, nofun, nofun, nofun, nofun, nofun, nofun, nofun, (fun _ ks h => by cases h; exact eq57), (fun _ ks h => by cases h; exact eq58), nofun, (fun _ ks h => by cases h; exact eq60), (fun _ ks h => by cases h; exact eq61), (fun _ ks h => by cases h; exact eq62), (fun _ ks h => by cases h; exact eq63), nofun, nofun, nofun, nofun, nofun, nofun, nofun, nofun, nofun, nofun, nofun, nofun, nofun, nofun, nofun, nofun, nofun, nofun, nofun, nofun, (fun _ ks h => by cases h; exact eq86), (fun _ ks h => by cases h; exact eq87), nofun, nofun, nofun, nofun, nofun, nofun, nofun, nofun, nofun, nofun, nofun, nofun, nofun, nofun, nofun, nofun, nofun, nofun, nofun, nofun, nofun, nofun, nofun, nofun, nofun, nofun, nofun, nofun, nofun, nofun, nofun, nofun, nofun, nofun, nofun, nofun, nofun, nofun, nofun, nofun, nofun, nofun, nofun, nofun, nofun, nofun, nofun, nofun, (fun _ ks h => by cases h; exact eq146), (fun _ ks h => by cases h; exact eq147), nofun, nofun, nofun, nofun, nofun, nofun, nofun, nofun, nofun, nofun, nofun, nofun, nofun, nofun, nofun, nofun, nofun, nofun, nofun, nofun, nofun, nofun, nofun, nofun, (fun _ ks h => by cases h; exact eq174), (fun _ ks h => by cases h; exact eq175), nofun, nofun, nofun, nofun, nofun, nofun, nofun, nofun, nofun, nofun, nofun, nofun, nofun, nofun, nofun, nofun, nofun, nofun, nofun, nofun, nofun, nofun, nofun, nofun, nofun, nofun, nofun, nofun, nofun, nofun, nofun, nofun, nofun, nofun, nofun, nofun, nofun, nofun, nofun⟩
  · simp only [tl, List.forall_mem_cons, List.not_mem_nil, false_implies, implies_true, and_true]
    exact ⟨nofun, nofun, nofun, nofun, nofun, nofun, nofun, nofun, nofun, nofun, (fun fs h => by cases h; rfl), (fun fs h => by cases h; rfl), nofun, nofun, nofun, nofun, nofun, nofun, nofun, nofun, nofun, (fun fs h => by cases h; rfl), (fun fs h => by cases h; rfl), nofun, (fun fs h => by cases h; rfl), (fun fs h => by cases h; rfl), nofun, nofun, nofun, (fun fs h => by cases h; rfl), (fun fs h => by cases h; rfl), (fun fs h => by cases h; rfl), (fun fs h => by cases h; rfl), nofun, nofun, nofun, nofun, nofun, (fun fs h => by cases h; rfl), (fun fs h => by cases h; rfl), (fun fs h => by cases h; rfl), (fun fs h => by cases h; rfl), nofun, (fun fs h => by cases h; rfl), (fun fs h => by cases h; rfl), (fun fs h => by cases h; rfl), (fun fs h => by cases h; rfl), nofun, (fun fs h => by cases h; rfl), (fun fs h => by cases h; rfl), nofun, nofun, nofun, nofun, nofun, nofun, nofun, (fun fs h => by cases h; rfl), (fun fs h => by cases h; rfl), nofun, nofun, nofun, (fun fs h => by cases h; rfl), (fun fs h => by cases h; rfl), nofun, nofun, nofun, (fun fs h => by cases h; rfl), (fun fs h => by cases h; rfl), nofun, nofun, nofun, (fun fs h => by cases h; rfl), (fun fs h => by cases h; rfl), nofun, nofun, nofun, nofun, nofun, nofun, nofun, nofun, nofun, nofun, nofun, nofun, nofun, nofun, nofun, (fun fs h => by cases h; rfl), (fun fs h => by cases h; rfl), nofun, (fun fs h => by cases h; rfl), (fun fs h => by cases h; rfl), nofun, nofun, nofun, nofun, nofun, nofun, nofun, nofun, nofun, nofun, nofun, nofun, nofun, nofun, nofun, nofun, nofun, nofun, nofun, nofun, nofun, nofun, nofun, (fun fs h => by cases h; rfl), (fun fs h => by cases h; rfl), nofun, nofun, nofun, (fun fs h => by cases h; rfl), (fun fs h => by cases h; rfl), (fun fs h => by cases h; rfl), (fun fs h => by cases h; rfl), nofun, nofun, nofun, nofun, nofun, (fun fs h => by cases h; rfl), (fun fs h => by cases h; rfl), nofun, nofun, nofun, nofun, nofun, nofun, nofun, nofun, nofun, nofun, (fun fs h => by cases h; rfl), (fun fs h => by cases h; rfl), nofun, nofun, nofun, nofun, nofun, nofun, nofun, nofun, nofun, nofun, nofun, nofun, nofun, nofun, nofun, nofun, nofun, nofun, nofun, nofun, nofun, nofun, nofun, nofun, nofun, nofun, nofun, nofun, nofun, nofun, nofun, nofun, nofun, nofun, nofun, nofun, nofun, nofun, nofun⟩
end Go.Proofs.YtfnaclhllopoeaaGreat
