/- Part 10 of what follows is proved here: the layer over the walk. -/
import Derived.Test.YtldlcdnhdedoeaaGreatV8
import Derived.Test.YtldlcdnhdedoeaaGreatProg
import Derived.Test.YtldlcdnhdedoeaaGreatV1
import Derived.KernelRfl
set_option linter.unusedVariables false
set_option linter.unusedSimpArgs false
set_option maxRecDepth 100000
/- The seat's types, as the V layer wants them; each line is checked against the program by the kernel. -/
namespace Go.Proofs.YtldlcdnhdedoeaaGreat
open Go Go.VC

def tl : List (Nat × TI) := [(1, ⟨.other, 1, 8, [.d .nilfn], false⟩),
  (2, ⟨.int .i64, 1, 8, [.d (.int .i64 0)], false⟩),
  (3, ⟨.int .i64, 1, 8, [.d (.int .i64 0)], false⟩),
  (4, ⟨.bool, 1, 1, [.d (.bool false)], false⟩),
  (5, ⟨.int .u8, 1, 1, [.d (.int .u8 0)], false⟩),
  (9, ⟨.str, 1, 16, [.d (.str ⟨#[]⟩)], false⟩),
  (12, ⟨.int .u64, 1, 8, [.d (.int .u64 0)], false⟩),
  (21, ⟨.int .i32, 1, 4, [.d (.int .i32 0)], false⟩),
  (22, ⟨.slice 57, 1, 24, [.nil], false⟩),
  (23, ⟨.slice 90, 1, 24, [.nil], false⟩),
  (24, ⟨.struct [(0, 22), (1, 23)], 2, 48, [.nil, .nil], false⟩),
  (25, ⟨.struct [(0, 22), (1, 23)], 2, 48, [.nil, .nil], false⟩),
  (26, ⟨.other, 1, 8, [.d .nilfn], false⟩),
  (27, ⟨.other, 1, 8, [.d .nilfn], false⟩),
  (28, ⟨.slice 179, 1, 24, [.nil], false⟩),
  (29, ⟨.struct [(0, 3), (1, 28)], 2, 32, [.d (.int .i64 0), .nil], false⟩),
  (30, ⟨.struct [(0, 3), (1, 28)], 2, 32, [.d (.int .i64 0), .nil], false⟩),
  (31, ⟨.slice 55, 1, 24, [.nil], false⟩),
  (32, ⟨.slice 51, 1, 24, [.nil], false⟩),
  (33, ⟨.slice 95, 1, 24, [.nil], false⟩),
  (34, ⟨.struct [(0, 30), (2, 31), (3, 32), (4, 33), (5, 3)], 6, 112, [.d (.int .i64 0), .nil, .nil, .nil, .nil, .d (.int .i64 0)], false⟩),
  (35, ⟨.struct [(0, 30), (2, 31), (3, 32), (4, 33), (5, 3)], 6, 112, [.d (.int .i64 0), .nil, .nil, .nil, .nil, .d (.int .i64 0)], false⟩),
  (36, ⟨.int .i64, 1, 8, [.d (.int .i64 0)], false⟩),
  (38, ⟨.other, 1, 8, [.d .nilfn], false⟩),
  (39, ⟨.slice 3, 1, 24, [.nil], false⟩),
  (41, ⟨.other, 1, 8, [.d .nilfn], false⟩),
  (42, ⟨.other, 1, 8, [.d .nilfn], false⟩),
  (43, ⟨.other, 1, 8, [.d .nilfn], false⟩),
  (44, ⟨.other, 1, 8, [.d .nilfn], false⟩),
  (45, ⟨.other, 1, 8, [.d .nilfn], false⟩),
  (46, ⟨.slice 67, 1, 24, [.nil], false⟩),
  (47, ⟨.slice 4, 1, 24, [.nil], false⟩),
  (48, ⟨.slice 164, 1, 24, [.nil], false⟩),
  (49, ⟨.slice 126, 1, 24, [.nil], false⟩),
  (50, ⟨.struct [(0, 46), (1, 47), (2, 39), (3, 48), (4, 49)], 5, 120, [.nil, .nil, .nil, .nil, .nil], false⟩),
  (51, ⟨.struct [(0, 46), (1, 47), (2, 39), (3, 48), (4, 49)], 5, 120, [.nil, .nil, .nil, .nil, .nil], false⟩),
  (53, ⟨.other, 1, 8, [.d .nilfn], false⟩),
  (54, ⟨.struct [(0, 3), (1, 3)], 2, 16, [.d (.int .i64 0), .d (.int .i64 0)], true⟩),
  (55, ⟨.struct [(0, 3), (1, 3)], 2, 16, [.d (.int .i64 0), .d (.int .i64 0)], true⟩),
  (56, ⟨.struct [(0, 55), (2, 46)], 3, 40, [.d (.int .i64 0), .d (.int .i64 0), .nil], false⟩),
  (57, ⟨.struct [(0, 55), (2, 46)], 3, 40, [.d (.int .i64 0), .d (.int .i64 0), .nil], false⟩),
  (58, ⟨.other, 1, 8, [.d .nilfn], false⟩),
  (59, ⟨.struct [(0, 46), (1, 47), (2, 39), (3, 48), (4, 49)], 5, 120, [.nil, .nil, .nil, .nil, .nil], false⟩),
  (60, ⟨.other, 1, 8, [.d .nilfn], false⟩),
  (62, ⟨.other, 1, 8, [.d .nilfn], false⟩),
  (63, ⟨.other, 1, 8, [.d .nilfn], false⟩),
  (64, ⟨.slice 108, 1, 24, [.nil], false⟩),
  (65, ⟨.slice 200, 1, 24, [.nil], false⟩),
  (66, ⟨.struct [(0, 3), (1, 3), (2, 3), (3, 65)], 4, 48, [.d (.int .i64 0), .d (.int .i64 0), .d (.int .i64 0), .nil], false⟩),
  (67, ⟨.struct [(0, 3), (1, 3), (2, 3), (3, 65)], 4, 48, [.d (.int .i64 0), .d (.int .i64 0), .d (.int .i64 0), .nil], false⟩),
  (68, ⟨.struct [(0, 3), (1, 3), (2, 3), (3, 3), (4, 67)], 8, 80, [.d (.int .i64 0), .d (.int .i64 0), .d (.int .i64 0), .d (.int .i64 0), .d (.int .i64 0), .d (.int .i64 0), .d (.int .i64 0), .nil], false⟩),
  (69, ⟨.struct [(0, 3), (1, 3), (2, 3), (3, 3), (4, 67)], 8, 80, [.d (.int .i64 0), .d (.int .i64 0), .d (.int .i64 0), .d (.int .i64 0), .d (.int .i64 0), .d (.int .i64 0), .d (.int .i64 0), .nil], false⟩),
  (70, ⟨.other, 1, 8, [.d .nilfn], false⟩),
  (71, ⟨.other, 1, 8, [.d .nilfn], false⟩),
  (73, ⟨.other, 1, 8, [.d .nilfn], false⟩),
  (74, ⟨.other, 1, 8, [.d .nilfn], false⟩),
  (75, ⟨.other, 1, 8, [.d .nilfn], false⟩),
  (77, ⟨.other, 1, 8, [.d .nilfn], false⟩),
  (78, ⟨.other, 1, 8, [.d .nilfn], false⟩),
  (79, ⟨.other, 1, 8, [.d .nilfn], false⟩),
  (80, ⟨.other, 1, 8, [.d .nilfn], false⟩),
  (81, ⟨.other, 1, 8, [.d .nilfn], false⟩),
  (83, ⟨.other, 1, 8, [.d .nilfn], false⟩),
  (84, ⟨.other, 1, 8, [.d .nilfn], false⟩),
  (86, ⟨.other, 1, 8, [.d .nilfn], false⟩),
  (87, ⟨.other, 1, 8, [.d .nilfn], false⟩),
  (88, ⟨.other, 1, 8, [.d .nilfn], false⟩),
  (89, ⟨.struct [(0, 3), (1, 3), (2, 3)], 3, 24, [.d (.int .i64 0), .d (.int .i64 0), .d (.int .i64 0)], true⟩),
  (90, ⟨.struct [(0, 3), (1, 3), (2, 3)], 3, 24, [.d (.int .i64 0), .d (.int .i64 0), .d (.int .i64 0)], true⟩),
  (91, ⟨.other, 1, 8, [.d .nilfn], false⟩),
  (92, ⟨.struct [(0, 39), (1, 3), (2, 3)], 3, 40, [.nil, .d (.int .i64 0), .d (.int .i64 0)], false⟩),
  (93, ⟨.struct [(0, 39), (1, 3), (2, 3)], 3, 40, [.nil, .d (.int .i64 0), .d (.int .i64 0)], false⟩),
  (94, ⟨.struct [(0, 90), (3, 93), (6, 93)], 9, 104, [.d (.int .i64 0), .d (.int .i64 0), .d (.int .i64 0), .nil, .d (.int .i64 0), .d (.int .i64 0), .nil, .d (.int .i64 0), .d (.int .i64 0)], false⟩),
  (95, ⟨.struct [(0, 90), (3, 93), (6, 93)], 9, 104, [.d (.int .i64 0), .d (.int .i64 0), .d (.int .i64 0), .nil, .d (.int .i64 0), .d (.int .i64 0), .nil, .d (.int .i64 0), .d (.int .i64 0)], false⟩),
  (96, ⟨.other, 1, 8, [.d .nilfn], false⟩),
  (97, ⟨.slice 5, 1, 24, [.nil], false⟩),
  (98, ⟨.other, 1, 8, [.d .nilfn], false⟩),
  (99, ⟨.slice 111, 1, 24, [.nil], false⟩),
  (101, ⟨.other, 1, 8, [.d .nilfn], false⟩),
  (102, ⟨.slice 106, 1, 24, [.nil], false⟩),
  (103, ⟨.other, 1, 8, [.d .nilfn], false⟩),
  (105, ⟨.other, 1, 8, [.d .nilfn], false⟩),
  (106, ⟨.slice 69, 1, 24, [.nil], false⟩),
  (107, ⟨.struct [(0, 106)], 1, 24, [.nil], false⟩),
  (108, ⟨.struct [(0, 106)], 1, 24, [.nil], false⟩),
  (109, ⟨.slice 113, 1, 24, [.nil], false⟩),
  (110, ⟨.struct [(0, 109), (1, 39), (2, 49)], 3, 72, [.nil, .nil, .nil], false⟩),
  (111, ⟨.struct [(0, 109), (1, 39), (2, 49)], 3, 72, [.nil, .nil, .nil], false⟩),
  (112, ⟨.struct [(0, 3), (1, 3), (2, 36)], 3, 24, [.d (.int .i64 0), .d (.int .i64 0), .d (.int .i64 0)], true⟩),
  (113, ⟨.struct [(0, 3), (1, 3), (2, 36)], 3, 24, [.d (.int .i64 0), .d (.int .i64 0), .d (.int .i64 0)], true⟩),
  (114, ⟨.other, 1, 8, [.d .nilfn], false⟩),
  (115, ⟨.other, 1, 8, [.d .nilfn], false⟩),
  (116, ⟨.other, 1, 8, [.d .nilfn], false⟩),
  (117, ⟨.other, 1, 8, [.d .nilfn], false⟩),
  (118, ⟨.other, 1, 8, [.d .nilfn], false⟩),
  (119, ⟨.other, 1, 8, [.d .nilfn], false⟩),
  (120, ⟨.other, 1, 8, [.d .nilfn], false⟩),
  (122, ⟨.other, 1, 8, [.d .nilfn], false⟩),
  (123, ⟨.other, 1, 8, [.d .nilfn], false⟩),
  (124, ⟨.other, 1, 8, [.d .nilfn], false⟩),
  (125, ⟨.struct [(0, 3), (1, 3), (2, 3)], 3, 24, [.d (.int .i64 0), .d (.int .i64 0), .d (.int .i64 0)], true⟩),
  (126, ⟨.struct [(0, 3), (1, 3), (2, 3)], 3, 24, [.d (.int .i64 0), .d (.int .i64 0), .d (.int .i64 0)], true⟩),
  (127, ⟨.other, 1, 8, [.d .nilfn], false⟩),
  (129, ⟨.other, 1, 8, [.d .nilfn], false⟩),
  (131, ⟨.other, 1, 8, [.d .nilfn], false⟩),
  (132, ⟨.other, 1, 8, [.d .nilfn], false⟩),
  (133, ⟨.other, 1, 8, [.d .nilfn], false⟩),
  (134, ⟨.other, 1, 8, [.d .nilfn], false⟩),
  (135, ⟨.other, 1, 8, [.d .nilfn], false⟩),
  (136, ⟨.other, 1, 8, [.d .nilfn], false⟩),
  (137, ⟨.other, 1, 8, [.d .nilfn], false⟩),
  (138, ⟨.other, 1, 8, [.d .nilfn], false⟩),
  (139, ⟨.other, 1, 8, [.d .nilfn], false⟩),
  (140, ⟨.other, 1, 8, [.d .nilfn], false⟩),
  (141, ⟨.other, 1, 8, [.d .nilfn], false⟩),
  (142, ⟨.other, 1, 8, [.d .nilfn], false⟩),
  (143, ⟨.other, 1, 8, [.d .nilfn], false⟩),
  (144, ⟨.other, 1, 8, [.d .nilfn], false⟩),
  (146, ⟨.other, 1, 8, [.d .nilfn], false⟩),
  (147, ⟨.other, 1, 8, [.d .nilfn], false⟩),
  (148, ⟨.slice 213, 1, 24, [.nil], false⟩),
  (149, ⟨.other, 1, 8, [.d .nilfn], false⟩),
  (151, ⟨.other, 1, 8, [.d .nilfn], false⟩),
  (152, ⟨.other, 1, 8, [.d .nilfn], false⟩),
  (153, ⟨.other, 1, 8, [.nilptr], false⟩),
  (154, ⟨.other, 1, 8, [.d .nilfn], false⟩),
  (156, ⟨.other, 1, 8, [.d .nilfn], false⟩),
  (157, ⟨.other, 1, 8, [.d .nilfn], false⟩),
  (158, ⟨.struct [(0, 49), (1, 3)], 2, 32, [.nil, .d (.int .i64 0)], false⟩),
  (159, ⟨.struct [(0, 49), (1, 3)], 2, 32, [.nil, .d (.int .i64 0)], false⟩),
  (160, ⟨.struct [(0, 159), (2, 51)], 7, 152, [.nil, .d (.int .i64 0), .nil, .nil, .nil, .nil, .nil], false⟩),
  (161, ⟨.struct [(0, 159), (2, 51)], 7, 152, [.nil, .d (.int .i64 0), .nil, .nil, .nil, .nil, .nil], false⟩),
  (162, ⟨.other, 1, 8, [.d .nilfn], false⟩),
  (163, ⟨.struct [(0, 3), (1, 3), (2, 3), (3, 3), (4, 3), (5, 4)], 6, 48, [.d (.int .i64 0), .d (.int .i64 0), .d (.int .i64 0), .d (.int .i64 0), .d (.int .i64 0), .d (.bool false)], true⟩),
  (164, ⟨.struct [(0, 3), (1, 3), (2, 3), (3, 3), (4, 3), (5, 4)], 6, 48, [.d (.int .i64 0), .d (.int .i64 0), .d (.int .i64 0), .d (.int .i64 0), .d (.int .i64 0), .d (.bool false)], true⟩),
  (165, ⟨.other, 1, 8, [.d .nilfn], false⟩),
  (166, ⟨.other, 1, 8, [.d .nilfn], false⟩),
  (168, ⟨.other, 1, 8, [.d .nilfn], false⟩),
  (169, ⟨.other, 1, 8, [.d .nilfn], false⟩),
  (170, ⟨.other, 1, 8, [.d .nilfn], false⟩),
  (171, ⟨.other, 1, 8, [.d .nilfn], false⟩),
  (172, ⟨.other, 1, 8, [.d .nilfn], false⟩),
  (173, ⟨.other, 1, 8, [.d .nilfn], false⟩),
  (174, ⟨.other, 1, 8, [.d .nilfn], false⟩),
  (175, ⟨.other, 1, 8, [.d .nilfn], false⟩),
  (176, ⟨.other, 1, 8, [.d .nilfn], false⟩),
  (177, ⟨.other, 1, 8, [.d .nilfn], false⟩),
  (178, ⟨.struct [(0, 3), (1, 3), (2, 3)], 3, 24, [.d (.int .i64 0), .d (.int .i64 0), .d (.int .i64 0)], true⟩),
  (179, ⟨.struct [(0, 3), (1, 3), (2, 3)], 3, 24, [.d (.int .i64 0), .d (.int .i64 0), .d (.int .i64 0)], true⟩),
  (180, ⟨.other, 1, 8, [.d .nilfn], false⟩),
  (181, ⟨.other, 1, 8, [.d .nilfn], false⟩),
  (182, ⟨.other, 1, 8, [.d .nilfn], false⟩),
  (183, ⟨.other, 1, 8, [.d .nilfn], false⟩),
  (185, ⟨.other, 1, 8, [.d .nilfn], false⟩),
  (186, ⟨.other, 1, 8, [.d .nilfn], false⟩),
  (187, ⟨.other, 1, 8, [.nilptr], false⟩),
  (188, ⟨.struct [(0, 97), (1, 3), (2, 36)], 3, 40, [.nil, .d (.int .i64 0), .d (.int .i64 0)], false⟩),
  (189, ⟨.struct [(0, 97), (1, 3), (2, 36)], 3, 40, [.nil, .d (.int .i64 0), .d (.int .i64 0)], false⟩),
  (190, ⟨.other, 1, 8, [.d .nilfn], false⟩),
  (191, ⟨.other, 1, 8, [.d .nilfn], false⟩),
  (192, ⟨.other, 1, 8, [.d .nilfn], false⟩),
  (193, ⟨.other, 1, 8, [.d .nilfn], false⟩),
  (194, ⟨.other, 1, 8, [.d .nilfn], false⟩),
  (195, ⟨.other, 1, 8, [.d .nilfn], false⟩),
  (196, ⟨.other, 1, 8, [.d .nilfn], false⟩),
  (197, ⟨.other, 1, 8, [.d .nilfn], false⟩),
  (198, ⟨.other, 1, 8, [.d .nilfn], false⟩),
  (199, ⟨.struct [(0, 3), (1, 3), (2, 3)], 3, 24, [.d (.int .i64 0), .d (.int .i64 0), .d (.int .i64 0)], true⟩),
  (200, ⟨.struct [(0, 3), (1, 3), (2, 3)], 3, 24, [.d (.int .i64 0), .d (.int .i64 0), .d (.int .i64 0)], true⟩),
  (201, ⟨.other, 1, 8, [.d .nilfn], false⟩),
  (202, ⟨.other, 1, 8, [.d .nilfn], false⟩),
  (203, ⟨.other, 1, 8, [.d .nilfn], false⟩),
  (205, ⟨.other, 1, 8, [.d .nilfn], false⟩),
  (206, ⟨.other, 1, 8, [.d .nilfn], false⟩),
  (207, ⟨.other, 1, 8, [.d .nilfn], false⟩),
  (208, ⟨.other, 1, 8, [.d .nilfn], false⟩),
  (209, ⟨.other, 1, 8, [.d .nilfn], false⟩),
  (210, ⟨.other, 1, 8, [.d .nilfn], false⟩),
  (211, ⟨.other, 1, 8, [.d .nilfn], false⟩),
  (212, ⟨.struct [(0, 90), (3, 39), (4, 39)], 5, 72, [.d (.int .i64 0), .d (.int .i64 0), .d (.int .i64 0), .nil, .nil], false⟩),
  (213, ⟨.struct [(0, 90), (3, 39), (4, 39)], 5, 72, [.d (.int .i64 0), .d (.int .i64 0), .d (.int .i64 0), .nil, .nil], false⟩),
  (214, ⟨.other, 1, 8, [.d .nilfn], false⟩),
  (215, ⟨.other, 1, 8, [.d .nilfn], false⟩),
  (216, ⟨.other, 1, 8, [.d .nilfn], false⟩),
  (217, ⟨.other, 1, 8, [.nilptr], false⟩),
  (218, ⟨.other, 1, 8, [.d .nilfn], false⟩),
  (219, ⟨.slice 170, 1, 24, [.nil], false⟩),
  (220, ⟨.other, 1, 8, [.d .nilfn], false⟩),
  (221, ⟨.other, 1, 8, [.d .nilfn], false⟩),
  (222, ⟨.other, 1, 8, [.d .nilfn], false⟩),
  (223, ⟨.other, 1, 8, [.d .nilfn], false⟩),
  (224, ⟨.other, 1, 8, [.d .nilfn], false⟩),
  (226, ⟨.other, 1, 8, [.d .nilfn], false⟩),
  (228, ⟨.other, 1, 8, [.d .nilfn], false⟩),
  (229, ⟨.other, 1, 8, [.d .nilfn], false⟩),
  (230, ⟨.other, 1, 8, [.d .nilfn], false⟩),
  (231, ⟨.other, 1, 8, [.d .nilfn], false⟩),
  (232, ⟨.other, 1, 8, [.d .nilfn], false⟩),
  (233, ⟨.other, 1, 8, [.d .nilfn], false⟩),
  (234, ⟨.other, 1, 8, [.d .nilfn], false⟩),
  (236, ⟨.other, 1, 8, [.d .nilfn], false⟩),
  (237, ⟨.other, 1, 8, [.nilptr], false⟩),
  (238, ⟨.struct [(0, 31), (1, 39)], 2, 48, [.nil, .nil], false⟩),
  (239, ⟨.struct [(0, 31), (1, 39)], 2, 48, [.nil, .nil], false⟩),
  (240, ⟨.other, 1, 8, [.d .nilfn], false⟩),
  (241, ⟨.other, 1, 8, [.d .nilfn], false⟩),
  (242, ⟨.other, 1, 8, [.d .nilfn], false⟩),
  (244, ⟨.other, 1, 8, [.d .nilfn], false⟩),
  (246, ⟨.other, 1, 8, [.d .nilfn], false⟩),
  (247, ⟨.other, 1, 8, [.d .nilfn], false⟩),
  (248, ⟨.other, 1, 8, [.d .nilfn], false⟩),
  (249, ⟨.other, 1, 8, [.d .nilfn], false⟩),
  (250, ⟨.other, 1, 8, [.d .nilfn], false⟩),
  (251, ⟨.other, 1, 8, [.d .nilfn], false⟩),
  (253, ⟨.other, 1, 8, [.d .nilfn], false⟩),
  (254, ⟨.other, 1, 8, [.d .nilfn], false⟩),
  (255, ⟨.other, 1, 8, [.d .nilfn], false⟩),
  (256, ⟨.other, 1, 8, [.d .nilfn], false⟩),
  (257, ⟨.other, 1, 8, [.d .nilfn], false⟩),
  (258, ⟨.other, 1, 8, [.d .nilfn], false⟩),
  (259, ⟨.other, 1, 8, [.d .nilfn], false⟩),
  (260, ⟨.other, 1, 8, [.d .nilfn], false⟩),
  (261, ⟨.other, 1, 8, [.d .nilfn], false⟩),
  (262, ⟨.other, 1, 8, [.d .nilfn], false⟩),
  (263, ⟨.other, 1, 8, [.d .nilfn], false⟩),
  (264, ⟨.other, 1, 8, [.d .nilfn], false⟩),
  (265, ⟨.other, 1, 8, [.d .nilfn], false⟩),
  (266, ⟨.other, 1, 8, [.d .nilfn], false⟩),
  (267, ⟨.other, 1, 8, [.d .nilfn], false⟩),
  (268, ⟨.other, 1, 8, [.d .nilfn], false⟩),
  (269, ⟨.other, 1, 8, [.d .nilfn], false⟩),
  (270, ⟨.other, 1, 8, [.d .nilfn], false⟩),
  (271, ⟨.other, 1, 8, [.d .nilfn], false⟩),
  (272, ⟨.other, 1, 8, [.d .nilfn], false⟩),
  (273, ⟨.other, 1, 8, [.d .nilfn], false⟩),
  (274, ⟨.other, 1, 8, [.d .nilfn], false⟩),
  (280, ⟨.int .u32, 1, 4, [.d (.int .u32 0)], false⟩),
  (284, ⟨.other, 1, 8, [.nilptr], false⟩)]
def T : TypeId → Option TI := fun t => assoc tl t
theorem T1 : T 1 = some ⟨.other, 1, 8, [.d .nilfn], false⟩ := rfl
theorem T2 : T 2 = some ⟨.int .i64, 1, 8, [.d (.int .i64 0)], false⟩ := rfl
theorem T3 : T 3 = some ⟨.int .i64, 1, 8, [.d (.int .i64 0)], false⟩ := rfl
theorem T4 : T 4 = some ⟨.bool, 1, 1, [.d (.bool false)], false⟩ := rfl
theorem T5 : T 5 = some ⟨.int .u8, 1, 1, [.d (.int .u8 0)], false⟩ := rfl
theorem T9 : T 9 = some ⟨.str, 1, 16, [.d (.str ⟨#[]⟩)], false⟩ := rfl
theorem T12 : T 12 = some ⟨.int .u64, 1, 8, [.d (.int .u64 0)], false⟩ := rfl
theorem T21 : T 21 = some ⟨.int .i32, 1, 4, [.d (.int .i32 0)], false⟩ := rfl
theorem T22 : T 22 = some ⟨.slice 57, 1, 24, [.nil], false⟩ := rfl
theorem T23 : T 23 = some ⟨.slice 90, 1, 24, [.nil], false⟩ := rfl
theorem T24 : T 24 = some ⟨.struct [(0, 22), (1, 23)], 2, 48, [.nil, .nil], false⟩ := rfl
theorem T25 : T 25 = some ⟨.struct [(0, 22), (1, 23)], 2, 48, [.nil, .nil], false⟩ := rfl
theorem T26 : T 26 = some ⟨.other, 1, 8, [.d .nilfn], false⟩ := rfl
theorem T27 : T 27 = some ⟨.other, 1, 8, [.d .nilfn], false⟩ := rfl
theorem T28 : T 28 = some ⟨.slice 179, 1, 24, [.nil], false⟩ := rfl
theorem T29 : T 29 = some ⟨.struct [(0, 3), (1, 28)], 2, 32, [.d (.int .i64 0), .nil], false⟩ := rfl
theorem T30 : T 30 = some ⟨.struct [(0, 3), (1, 28)], 2, 32, [.d (.int .i64 0), .nil], false⟩ := rfl
theorem T31 : T 31 = some ⟨.slice 55, 1, 24, [.nil], false⟩ := rfl
theorem T32 : T 32 = some ⟨.slice 51, 1, 24, [.nil], false⟩ := rfl
theorem T33 : T 33 = some ⟨.slice 95, 1, 24, [.nil], false⟩ := rfl
theorem T34 : T 34 = some ⟨.struct [(0, 30), (2, 31), (3, 32), (4, 33), (5, 3)], 6, 112, [.d (.int .i64 0), .nil, .nil, .nil, .nil, .d (.int .i64 0)], false⟩ := rfl
theorem T35 : T 35 = some ⟨.struct [(0, 30), (2, 31), (3, 32), (4, 33), (5, 3)], 6, 112, [.d (.int .i64 0), .nil, .nil, .nil, .nil, .d (.int .i64 0)], false⟩ := rfl
theorem T36 : T 36 = some ⟨.int .i64, 1, 8, [.d (.int .i64 0)], false⟩ := rfl
theorem T38 : T 38 = some ⟨.other, 1, 8, [.d .nilfn], false⟩ := rfl
theorem T39 : T 39 = some ⟨.slice 3, 1, 24, [.nil], false⟩ := rfl
theorem T41 : T 41 = some ⟨.other, 1, 8, [.d .nilfn], false⟩ := rfl
theorem T42 : T 42 = some ⟨.other, 1, 8, [.d .nilfn], false⟩ := rfl
theorem T43 : T 43 = some ⟨.other, 1, 8, [.d .nilfn], false⟩ := rfl
theorem T44 : T 44 = some ⟨.other, 1, 8, [.d .nilfn], false⟩ := rfl
theorem T45 : T 45 = some ⟨.other, 1, 8, [.d .nilfn], false⟩ := rfl
theorem T46 : T 46 = some ⟨.slice 67, 1, 24, [.nil], false⟩ := rfl
theorem T47 : T 47 = some ⟨.slice 4, 1, 24, [.nil], false⟩ := rfl
theorem T48 : T 48 = some ⟨.slice 164, 1, 24, [.nil], false⟩ := rfl
theorem T49 : T 49 = some ⟨.slice 126, 1, 24, [.nil], false⟩ := rfl
theorem T50 : T 50 = some ⟨.struct [(0, 46), (1, 47), (2, 39), (3, 48), (4, 49)], 5, 120, [.nil, .nil, .nil, .nil, .nil], false⟩ := rfl
theorem T51 : T 51 = some ⟨.struct [(0, 46), (1, 47), (2, 39), (3, 48), (4, 49)], 5, 120, [.nil, .nil, .nil, .nil, .nil], false⟩ := rfl
theorem T53 : T 53 = some ⟨.other, 1, 8, [.d .nilfn], false⟩ := rfl
theorem T54 : T 54 = some ⟨.struct [(0, 3), (1, 3)], 2, 16, [.d (.int .i64 0), .d (.int .i64 0)], true⟩ := rfl
theorem T55 : T 55 = some ⟨.struct [(0, 3), (1, 3)], 2, 16, [.d (.int .i64 0), .d (.int .i64 0)], true⟩ := rfl
theorem T56 : T 56 = some ⟨.struct [(0, 55), (2, 46)], 3, 40, [.d (.int .i64 0), .d (.int .i64 0), .nil], false⟩ := rfl
theorem T57 : T 57 = some ⟨.struct [(0, 55), (2, 46)], 3, 40, [.d (.int .i64 0), .d (.int .i64 0), .nil], false⟩ := rfl
theorem T58 : T 58 = some ⟨.other, 1, 8, [.d .nilfn], false⟩ := rfl
theorem T59 : T 59 = some ⟨.struct [(0, 46), (1, 47), (2, 39), (3, 48), (4, 49)], 5, 120, [.nil, .nil, .nil, .nil, .nil], false⟩ := rfl
theorem T60 : T 60 = some ⟨.other, 1, 8, [.d .nilfn], false⟩ := rfl
theorem T62 : T 62 = some ⟨.other, 1, 8, [.d .nilfn], false⟩ := rfl
theorem T63 : T 63 = some ⟨.other, 1, 8, [.d .nilfn], false⟩ := rfl
theorem T64 : T 64 = some ⟨.slice 108, 1, 24, [.nil], false⟩ := rfl
theorem T65 : T 65 = some ⟨.slice 200, 1, 24, [.nil], false⟩ := rfl
theorem T66 : T 66 = some ⟨.struct [(0, 3), (1, 3), (2, 3), (3, 65)], 4, 48, [.d (.int .i64 0), .d (.int .i64 0), .d (.int .i64 0), .nil], false⟩ := rfl
theorem T67 : T 67 = some ⟨.struct [(0, 3), (1, 3), (2, 3), (3, 65)], 4, 48, [.d (.int .i64 0), .d (.int .i64 0), .d (.int .i64 0), .nil], false⟩ := rfl
theorem T68 : T 68 = some ⟨.struct [(0, 3), (1, 3), (2, 3), (3, 3), (4, 67)], 8, 80, [.d (.int .i64 0), .d (.int .i64 0), .d (.int .i64 0), .d (.int .i64 0), .d (.int .i64 0), .d (.int .i64 0), .d (.int .i64 0), .nil], false⟩ := rfl
theorem T69 : T 69 = some ⟨.struct [(0, 3), (1, 3), (2, 3), (3, 3), (4, 67)], 8, 80, [.d (.int .i64 0), .d (.int .i64 0), .d (.int .i64 0), .d (.int .i64 0), .d (.int .i64 0), .d (.int .i64 0), .d (.int .i64 0), .nil], false⟩ := rfl
theorem T70 : T 70 = some ⟨.other, 1, 8, [.d .nilfn], false⟩ := rfl
theorem T71 : T 71 = some ⟨.other, 1, 8, [.d .nilfn], false⟩ := rfl
theorem T73 : T 73 = some ⟨.other, 1, 8, [.d .nilfn], false⟩ := rfl
theorem T74 : T 74 = some ⟨.other, 1, 8, [.d .nilfn], false⟩ := rfl
theorem T75 : T 75 = some ⟨.other, 1, 8, [.d .nilfn], false⟩ := rfl
theorem T77 : T 77 = some ⟨.other, 1, 8, [.d .nilfn], false⟩ := rfl
theorem T78 : T 78 = some ⟨.other, 1, 8, [.d .nilfn], false⟩ := rfl
theorem T79 : T 79 = some ⟨.other, 1, 8, [.d .nilfn], false⟩ := rfl
theorem T80 : T 80 = some ⟨.other, 1, 8, [.d .nilfn], false⟩ := rfl
theorem T81 : T 81 = some ⟨.other, 1, 8, [.d .nilfn], false⟩ := rfl
theorem T83 : T 83 = some ⟨.other, 1, 8, [.d .nilfn], false⟩ := rfl
theorem T84 : T 84 = some ⟨.other, 1, 8, [.d .nilfn], false⟩ := rfl
theorem T86 : T 86 = some ⟨.other, 1, 8, [.d .nilfn], false⟩ := rfl
theorem T87 : T 87 = some ⟨.other, 1, 8, [.d .nilfn], false⟩ := rfl
theorem T88 : T 88 = some ⟨.other, 1, 8, [.d .nilfn], false⟩ := rfl
theorem T89 : T 89 = some ⟨.struct [(0, 3), (1, 3), (2, 3)], 3, 24, [.d (.int .i64 0), .d (.int .i64 0), .d (.int .i64 0)], true⟩ := rfl
theorem T90 : T 90 = some ⟨.struct [(0, 3), (1, 3), (2, 3)], 3, 24, [.d (.int .i64 0), .d (.int .i64 0), .d (.int .i64 0)], true⟩ := rfl
theorem T91 : T 91 = some ⟨.other, 1, 8, [.d .nilfn], false⟩ := rfl
theorem T92 : T 92 = some ⟨.struct [(0, 39), (1, 3), (2, 3)], 3, 40, [.nil, .d (.int .i64 0), .d (.int .i64 0)], false⟩ := rfl
theorem T93 : T 93 = some ⟨.struct [(0, 39), (1, 3), (2, 3)], 3, 40, [.nil, .d (.int .i64 0), .d (.int .i64 0)], false⟩ := rfl
theorem T94 : T 94 = some ⟨.struct [(0, 90), (3, 93), (6, 93)], 9, 104, [.d (.int .i64 0), .d (.int .i64 0), .d (.int .i64 0), .nil, .d (.int .i64 0), .d (.int .i64 0), .nil, .d (.int .i64 0), .d (.int .i64 0)], false⟩ := rfl
theorem T95 : T 95 = some ⟨.struct [(0, 90), (3, 93), (6, 93)], 9, 104, [.d (.int .i64 0), .d (.int .i64 0), .d (.int .i64 0), .nil, .d (.int .i64 0), .d (.int .i64 0), .nil, .d (.int .i64 0), .d (.int .i64 0)], false⟩ := rfl
theorem T96 : T 96 = some ⟨.other, 1, 8, [.d .nilfn], false⟩ := rfl
theorem T97 : T 97 = some ⟨.slice 5, 1, 24, [.nil], false⟩ := rfl
theorem T98 : T 98 = some ⟨.other, 1, 8, [.d .nilfn], false⟩ := rfl
theorem T99 : T 99 = some ⟨.slice 111, 1, 24, [.nil], false⟩ := rfl
theorem T101 : T 101 = some ⟨.other, 1, 8, [.d .nilfn], false⟩ := rfl
theorem T102 : T 102 = some ⟨.slice 106, 1, 24, [.nil], false⟩ := rfl
theorem T103 : T 103 = some ⟨.other, 1, 8, [.d .nilfn], false⟩ := rfl
theorem T105 : T 105 = some ⟨.other, 1, 8, [.d .nilfn], false⟩ := rfl
theorem T106 : T 106 = some ⟨.slice 69, 1, 24, [.nil], false⟩ := rfl
theorem T107 : T 107 = some ⟨.struct [(0, 106)], 1, 24, [.nil], false⟩ := rfl
theorem T108 : T 108 = some ⟨.struct [(0, 106)], 1, 24, [.nil], false⟩ := rfl
theorem T109 : T 109 = some ⟨.slice 113, 1, 24, [.nil], false⟩ := rfl
theorem T110 : T 110 = some ⟨.struct [(0, 109), (1, 39), (2, 49)], 3, 72, [.nil, .nil, .nil], false⟩ := rfl
theorem T111 : T 111 = some ⟨.struct [(0, 109), (1, 39), (2, 49)], 3, 72, [.nil, .nil, .nil], false⟩ := rfl
theorem T112 : T 112 = some ⟨.struct [(0, 3), (1, 3), (2, 36)], 3, 24, [.d (.int .i64 0), .d (.int .i64 0), .d (.int .i64 0)], true⟩ := rfl
theorem T113 : T 113 = some ⟨.struct [(0, 3), (1, 3), (2, 36)], 3, 24, [.d (.int .i64 0), .d (.int .i64 0), .d (.int .i64 0)], true⟩ := rfl
theorem T114 : T 114 = some ⟨.other, 1, 8, [.d .nilfn], false⟩ := rfl
theorem T115 : T 115 = some ⟨.other, 1, 8, [.d .nilfn], false⟩ := rfl
theorem T116 : T 116 = some ⟨.other, 1, 8, [.d .nilfn], false⟩ := rfl
theorem T117 : T 117 = some ⟨.other, 1, 8, [.d .nilfn], false⟩ := rfl
theorem T118 : T 118 = some ⟨.other, 1, 8, [.d .nilfn], false⟩ := rfl
theorem T119 : T 119 = some ⟨.other, 1, 8, [.d .nilfn], false⟩ := rfl
theorem T120 : T 120 = some ⟨.other, 1, 8, [.d .nilfn], false⟩ := rfl
theorem T122 : T 122 = some ⟨.other, 1, 8, [.d .nilfn], false⟩ := rfl
theorem T123 : T 123 = some ⟨.other, 1, 8, [.d .nilfn], false⟩ := rfl
theorem T124 : T 124 = some ⟨.other, 1, 8, [.d .nilfn], false⟩ := rfl
theorem T125 : T 125 = some ⟨.struct [(0, 3), (1, 3), (2, 3)], 3, 24, [.d (.int .i64 0), .d (.int .i64 0), .d (.int .i64 0)], true⟩ := rfl
theorem T126 : T 126 = some ⟨.struct [(0, 3), (1, 3), (2, 3)], 3, 24, [.d (.int .i64 0), .d (.int .i64 0), .d (.int .i64 0)], true⟩ := rfl
theorem T127 : T 127 = some ⟨.other, 1, 8, [.d .nilfn], false⟩ := rfl
theorem T129 : T 129 = some ⟨.other, 1, 8, [.d .nilfn], false⟩ := rfl
theorem T131 : T 131 = some ⟨.other, 1, 8, [.d .nilfn], false⟩ := rfl
theorem T132 : T 132 = some ⟨.other, 1, 8, [.d .nilfn], false⟩ := rfl
theorem T133 : T 133 = some ⟨.other, 1, 8, [.d .nilfn], false⟩ := rfl
theorem T134 : T 134 = some ⟨.other, 1, 8, [.d .nilfn], false⟩ := rfl
theorem T135 : T 135 = some ⟨.other, 1, 8, [.d .nilfn], false⟩ := rfl
theorem T136 : T 136 = some ⟨.other, 1, 8, [.d .nilfn], false⟩ := rfl
theorem T137 : T 137 = some ⟨.other, 1, 8, [.d .nilfn], false⟩ := rfl
theorem T138 : T 138 = some ⟨.other, 1, 8, [.d .nilfn], false⟩ := rfl
theorem T139 : T 139 = some ⟨.other, 1, 8, [.d .nilfn], false⟩ := rfl
theorem T140 : T 140 = some ⟨.other, 1, 8, [.d .nilfn], false⟩ := rfl
theorem T141 : T 141 = some ⟨.other, 1, 8, [.d .nilfn], false⟩ := rfl
theorem T142 : T 142 = some ⟨.other, 1, 8, [.d .nilfn], false⟩ := rfl
theorem T143 : T 143 = some ⟨.other, 1, 8, [.d .nilfn], false⟩ := rfl
theorem T144 : T 144 = some ⟨.other, 1, 8, [.d .nilfn], false⟩ := rfl
theorem T146 : T 146 = some ⟨.other, 1, 8, [.d .nilfn], false⟩ := rfl
theorem T147 : T 147 = some ⟨.other, 1, 8, [.d .nilfn], false⟩ := rfl
theorem T148 : T 148 = some ⟨.slice 213, 1, 24, [.nil], false⟩ := rfl
theorem T149 : T 149 = some ⟨.other, 1, 8, [.d .nilfn], false⟩ := rfl
theorem T151 : T 151 = some ⟨.other, 1, 8, [.d .nilfn], false⟩ := rfl
theorem T152 : T 152 = some ⟨.other, 1, 8, [.d .nilfn], false⟩ := rfl
theorem T153 : T 153 = some ⟨.other, 1, 8, [.nilptr], false⟩ := rfl
theorem T154 : T 154 = some ⟨.other, 1, 8, [.d .nilfn], false⟩ := rfl
theorem T156 : T 156 = some ⟨.other, 1, 8, [.d .nilfn], false⟩ := rfl
theorem T157 : T 157 = some ⟨.other, 1, 8, [.d .nilfn], false⟩ := rfl
theorem T158 : T 158 = some ⟨.struct [(0, 49), (1, 3)], 2, 32, [.nil, .d (.int .i64 0)], false⟩ := rfl
theorem T159 : T 159 = some ⟨.struct [(0, 49), (1, 3)], 2, 32, [.nil, .d (.int .i64 0)], false⟩ := rfl
theorem T160 : T 160 = some ⟨.struct [(0, 159), (2, 51)], 7, 152, [.nil, .d (.int .i64 0), .nil, .nil, .nil, .nil, .nil], false⟩ := rfl
theorem T161 : T 161 = some ⟨.struct [(0, 159), (2, 51)], 7, 152, [.nil, .d (.int .i64 0), .nil, .nil, .nil, .nil, .nil], false⟩ := rfl
theorem T162 : T 162 = some ⟨.other, 1, 8, [.d .nilfn], false⟩ := rfl
theorem T163 : T 163 = some ⟨.struct [(0, 3), (1, 3), (2, 3), (3, 3), (4, 3), (5, 4)], 6, 48, [.d (.int .i64 0), .d (.int .i64 0), .d (.int .i64 0), .d (.int .i64 0), .d (.int .i64 0), .d (.bool false)], true⟩ := rfl
theorem T164 : T 164 = some ⟨.struct [(0, 3), (1, 3), (2, 3), (3, 3), (4, 3), (5, 4)], 6, 48, [.d (.int .i64 0), .d (.int .i64 0), .d (.int .i64 0), .d (.int .i64 0), .d (.int .i64 0), .d (.bool false)], true⟩ := rfl
theorem T165 : T 165 = some ⟨.other, 1, 8, [.d .nilfn], false⟩ := rfl
theorem T166 : T 166 = some ⟨.other, 1, 8, [.d .nilfn], false⟩ := rfl
theorem T168 : T 168 = some ⟨.other, 1, 8, [.d .nilfn], false⟩ := rfl
theorem T169 : T 169 = some ⟨.other, 1, 8, [.d .nilfn], false⟩ := rfl
theorem T170 : T 170 = some ⟨.other, 1, 8, [.d .nilfn], false⟩ := rfl
theorem T171 : T 171 = some ⟨.other, 1, 8, [.d .nilfn], false⟩ := rfl
theorem T172 : T 172 = some ⟨.other, 1, 8, [.d .nilfn], false⟩ := rfl
theorem T173 : T 173 = some ⟨.other, 1, 8, [.d .nilfn], false⟩ := rfl
theorem T174 : T 174 = some ⟨.other, 1, 8, [.d .nilfn], false⟩ := rfl
theorem T175 : T 175 = some ⟨.other, 1, 8, [.d .nilfn], false⟩ := rfl
theorem T176 : T 176 = some ⟨.other, 1, 8, [.d .nilfn], false⟩ := rfl
theorem T177 : T 177 = some ⟨.other, 1, 8, [.d .nilfn], false⟩ := rfl
theorem T178 : T 178 = some ⟨.struct [(0, 3), (1, 3), (2, 3)], 3, 24, [.d (.int .i64 0), .d (.int .i64 0), .d (.int .i64 0)], true⟩ := rfl
theorem T179 : T 179 = some ⟨.struct [(0, 3), (1, 3), (2, 3)], 3, 24, [.d (.int .i64 0), .d (.int .i64 0), .d (.int .i64 0)], true⟩ := rfl
theorem T180 : T 180 = some ⟨.other, 1, 8, [.d .nilfn], false⟩ := rfl
theorem T181 : T 181 = some ⟨.other, 1, 8, [.d .nilfn], false⟩ := rfl
theorem T182 : T 182 = some ⟨.other, 1, 8, [.d .nilfn], false⟩ := rfl
theorem T183 : T 183 = some ⟨.other, 1, 8, [.d .nilfn], false⟩ := rfl
theorem T185 : T 185 = some ⟨.other, 1, 8, [.d .nilfn], false⟩ := rfl
theorem T186 : T 186 = some ⟨.other, 1, 8, [.d .nilfn], false⟩ := rfl
theorem T187 : T 187 = some ⟨.other, 1, 8, [.nilptr], false⟩ := rfl
theorem T188 : T 188 = some ⟨.struct [(0, 97), (1, 3), (2, 36)], 3, 40, [.nil, .d (.int .i64 0), .d (.int .i64 0)], false⟩ := rfl
theorem T189 : T 189 = some ⟨.struct [(0, 97), (1, 3), (2, 36)], 3, 40, [.nil, .d (.int .i64 0), .d (.int .i64 0)], false⟩ := rfl
theorem T190 : T 190 = some ⟨.other, 1, 8, [.d .nilfn], false⟩ := rfl
theorem T191 : T 191 = some ⟨.other, 1, 8, [.d .nilfn], false⟩ := rfl
theorem T192 : T 192 = some ⟨.other, 1, 8, [.d .nilfn], false⟩ := rfl
theorem T193 : T 193 = some ⟨.other, 1, 8, [.d .nilfn], false⟩ := rfl
theorem T194 : T 194 = some ⟨.other, 1, 8, [.d .nilfn], false⟩ := rfl
theorem T195 : T 195 = some ⟨.other, 1, 8, [.d .nilfn], false⟩ := rfl
theorem T196 : T 196 = some ⟨.other, 1, 8, [.d .nilfn], false⟩ := rfl
theorem T197 : T 197 = some ⟨.other, 1, 8, [.d .nilfn], false⟩ := rfl
theorem T198 : T 198 = some ⟨.other, 1, 8, [.d .nilfn], false⟩ := rfl
theorem T199 : T 199 = some ⟨.struct [(0, 3), (1, 3), (2, 3)], 3, 24, [.d (.int .i64 0), .d (.int .i64 0), .d (.int .i64 0)], true⟩ := rfl
theorem T200 : T 200 = some ⟨.struct [(0, 3), (1, 3), (2, 3)], 3, 24, [.d (.int .i64 0), .d (.int .i64 0), .d (.int .i64 0)], true⟩ := rfl
theorem T201 : T 201 = some ⟨.other, 1, 8, [.d .nilfn], false⟩ := rfl
theorem T202 : T 202 = some ⟨.other, 1, 8, [.d .nilfn], false⟩ := rfl
theorem T203 : T 203 = some ⟨.other, 1, 8, [.d .nilfn], false⟩ := rfl
theorem T205 : T 205 = some ⟨.other, 1, 8, [.d .nilfn], false⟩ := rfl
theorem T206 : T 206 = some ⟨.other, 1, 8, [.d .nilfn], false⟩ := rfl
theorem T207 : T 207 = some ⟨.other, 1, 8, [.d .nilfn], false⟩ := rfl
theorem T208 : T 208 = some ⟨.other, 1, 8, [.d .nilfn], false⟩ := rfl
theorem T209 : T 209 = some ⟨.other, 1, 8, [.d .nilfn], false⟩ := rfl
theorem T210 : T 210 = some ⟨.other, 1, 8, [.d .nilfn], false⟩ := rfl
theorem T211 : T 211 = some ⟨.other, 1, 8, [.d .nilfn], false⟩ := rfl
theorem T212 : T 212 = some ⟨.struct [(0, 90), (3, 39), (4, 39)], 5, 72, [.d (.int .i64 0), .d (.int .i64 0), .d (.int .i64 0), .nil, .nil], false⟩ := rfl
theorem T213 : T 213 = some ⟨.struct [(0, 90), (3, 39), (4, 39)], 5, 72, [.d (.int .i64 0), .d (.int .i64 0), .d (.int .i64 0), .nil, .nil], false⟩ := rfl
theorem T214 : T 214 = some ⟨.other, 1, 8, [.d .nilfn], false⟩ := rfl
theorem T215 : T 215 = some ⟨.other, 1, 8, [.d .nilfn], false⟩ := rfl
theorem T216 : T 216 = some ⟨.other, 1, 8, [.d .nilfn], false⟩ := rfl
theorem T217 : T 217 = some ⟨.other, 1, 8, [.nilptr], false⟩ := rfl
theorem T218 : T 218 = some ⟨.other, 1, 8, [.d .nilfn], false⟩ := rfl
theorem T219 : T 219 = some ⟨.slice 170, 1, 24, [.nil], false⟩ := rfl
theorem T220 : T 220 = some ⟨.other, 1, 8, [.d .nilfn], false⟩ := rfl
theorem T221 : T 221 = some ⟨.other, 1, 8, [.d .nilfn], false⟩ := rfl
theorem T222 : T 222 = some ⟨.other, 1, 8, [.d .nilfn], false⟩ := rfl
theorem T223 : T 223 = some ⟨.other, 1, 8, [.d .nilfn], false⟩ := rfl
theorem T224 : T 224 = some ⟨.other, 1, 8, [.d .nilfn], false⟩ := rfl
theorem T226 : T 226 = some ⟨.other, 1, 8, [.d .nilfn], false⟩ := rfl
theorem T228 : T 228 = some ⟨.other, 1, 8, [.d .nilfn], false⟩ := rfl
theorem T229 : T 229 = some ⟨.other, 1, 8, [.d .nilfn], false⟩ := rfl
theorem T230 : T 230 = some ⟨.other, 1, 8, [.d .nilfn], false⟩ := rfl
theorem T231 : T 231 = some ⟨.other, 1, 8, [.d .nilfn], false⟩ := rfl
theorem T232 : T 232 = some ⟨.other, 1, 8, [.d .nilfn], false⟩ := rfl
theorem T233 : T 233 = some ⟨.other, 1, 8, [.d .nilfn], false⟩ := rfl
theorem T234 : T 234 = some ⟨.other, 1, 8, [.d .nilfn], false⟩ := rfl
theorem T236 : T 236 = some ⟨.other, 1, 8, [.d .nilfn], false⟩ := rfl
theorem T237 : T 237 = some ⟨.other, 1, 8, [.nilptr], false⟩ := rfl
theorem T238 : T 238 = some ⟨.struct [(0, 31), (1, 39)], 2, 48, [.nil, .nil], false⟩ := rfl
theorem T239 : T 239 = some ⟨.struct [(0, 31), (1, 39)], 2, 48, [.nil, .nil], false⟩ := rfl
theorem T240 : T 240 = some ⟨.other, 1, 8, [.d .nilfn], false⟩ := rfl
theorem T241 : T 241 = some ⟨.other, 1, 8, [.d .nilfn], false⟩ := rfl
theorem T242 : T 242 = some ⟨.other, 1, 8, [.d .nilfn], false⟩ := rfl
theorem T244 : T 244 = some ⟨.other, 1, 8, [.d .nilfn], false⟩ := rfl
theorem T246 : T 246 = some ⟨.other, 1, 8, [.d .nilfn], false⟩ := rfl
theorem T247 : T 247 = some ⟨.other, 1, 8, [.d .nilfn], false⟩ := rfl
theorem T248 : T 248 = some ⟨.other, 1, 8, [.d .nilfn], false⟩ := rfl
theorem T249 : T 249 = some ⟨.other, 1, 8, [.d .nilfn], false⟩ := rfl
theorem T250 : T 250 = some ⟨.other, 1, 8, [.d .nilfn], false⟩ := rfl
theorem T251 : T 251 = some ⟨.other, 1, 8, [.d .nilfn], false⟩ := rfl
theorem T253 : T 253 = some ⟨.other, 1, 8, [.d .nilfn], false⟩ := rfl
theorem T254 : T 254 = some ⟨.other, 1, 8, [.d .nilfn], false⟩ := rfl
theorem T255 : T 255 = some ⟨.other, 1, 8, [.d .nilfn], false⟩ := rfl
theorem T256 : T 256 = some ⟨.other, 1, 8, [.d .nilfn], false⟩ := rfl
theorem T257 : T 257 = some ⟨.other, 1, 8, [.d .nilfn], false⟩ := rfl
theorem T258 : T 258 = some ⟨.other, 1, 8, [.d .nilfn], false⟩ := rfl
theorem T259 : T 259 = some ⟨.other, 1, 8, [.d .nilfn], false⟩ := rfl
theorem T260 : T 260 = some ⟨.other, 1, 8, [.d .nilfn], false⟩ := rfl
theorem T261 : T 261 = some ⟨.other, 1, 8, [.d .nilfn], false⟩ := rfl
theorem T262 : T 262 = some ⟨.other, 1, 8, [.d .nilfn], false⟩ := rfl
theorem T263 : T 263 = some ⟨.other, 1, 8, [.d .nilfn], false⟩ := rfl
theorem T264 : T 264 = some ⟨.other, 1, 8, [.d .nilfn], false⟩ := rfl
theorem T265 : T 265 = some ⟨.other, 1, 8, [.d .nilfn], false⟩ := rfl
theorem T266 : T 266 = some ⟨.other, 1, 8, [.d .nilfn], false⟩ := rfl
theorem T267 : T 267 = some ⟨.other, 1, 8, [.d .nilfn], false⟩ := rfl
theorem T268 : T 268 = some ⟨.other, 1, 8, [.d .nilfn], false⟩ := rfl
theorem T269 : T 269 = some ⟨.other, 1, 8, [.d .nilfn], false⟩ := rfl
theorem T270 : T 270 = some ⟨.other, 1, 8, [.d .nilfn], false⟩ := rfl
theorem T271 : T 271 = some ⟨.other, 1, 8, [.d .nilfn], false⟩ := rfl
theorem T272 : T 272 = some ⟨.other, 1, 8, [.d .nilfn], false⟩ := rfl
theorem T273 : T 273 = some ⟨.other, 1, 8, [.d .nilfn], false⟩ := rfl
theorem T274 : T 274 = some ⟨.other, 1, 8, [.d .nilfn], false⟩ := rfl
theorem T280 : T 280 = some ⟨.int .u32, 1, 4, [.d (.int .u32 0)], false⟩ := rfl
theorem T284 : T 284 = some ⟨.other, 1, 8, [.nilptr], false⟩ := rfl
theorem ok1 : TIok Tryz.prog 1 ⟨.other, 1, 8, [.d .nilfn], false⟩ := TIok.of (.nilFunc) Tryz.underlying1 (rfl) (by kernel_rfl) rfl rfl rfl
theorem ok2 : TIok Tryz.prog 2 ⟨.int .i64, 1, 8, [.d (.int .i64 0)], false⟩ := TIok.of (.int .i64 0) Tryz.underlying2 (rfl) (by kernel_rfl) rfl rfl rfl
theorem ok3 : TIok Tryz.prog 3 ⟨.int .i64, 1, 8, [.d (.int .i64 0)], false⟩ := TIok.of (.int .i64 0) Tryz.underlying3 (rfl) (by kernel_rfl) rfl rfl rfl
theorem ok4 : TIok Tryz.prog 4 ⟨.bool, 1, 1, [.d (.bool false)], false⟩ := TIok.of (.bool false) Tryz.underlying4 (rfl) (by kernel_rfl) rfl rfl rfl
theorem ok5 : TIok Tryz.prog 5 ⟨.int .u8, 1, 1, [.d (.int .u8 0)], false⟩ := TIok.of (.int .u8 0) Tryz.underlying5 (rfl) (by kernel_rfl) rfl rfl rfl
theorem ok9 : TIok Tryz.prog 9 ⟨.str, 1, 16, [.d (.str ⟨#[]⟩)], false⟩ := TIok.of (.string ⟨#[]⟩) Tryz.underlying9 (rfl) (by kernel_rfl) rfl rfl rfl
theorem ok12 : TIok Tryz.prog 12 ⟨.int .u64, 1, 8, [.d (.int .u64 0)], false⟩ := TIok.of (.int .u64 0) Tryz.underlying12 (rfl) (by kernel_rfl) rfl rfl rfl
theorem ok21 : TIok Tryz.prog 21 ⟨.int .i32, 1, 4, [.d (.int .i32 0)], false⟩ := TIok.of (.int .i32 0) Tryz.underlying21 (rfl) (by kernel_rfl) rfl rfl rfl
theorem ok22 : TIok Tryz.prog 22 ⟨.slice 57, 1, 24, [.nil], false⟩ := TIok.of (.slice none 0 0) Tryz.underlying22 (rfl) (by kernel_rfl) rfl rfl rfl
theorem ok23 : TIok Tryz.prog 23 ⟨.slice 90, 1, 24, [.nil], false⟩ := TIok.of (.slice none 0 0) Tryz.underlying23 (rfl) (by kernel_rfl) rfl rfl rfl
theorem ok24 : TIok Tryz.prog 24 ⟨.struct [(0, 22), (1, 23)], 2, 48, [.nil, .nil], false⟩ := TIok.of (.agg #[.slice none 0 0, .slice none 0 0]) Tryz.underlying24 (fields_of rfl) (by kernel_rfl) rfl rfl rfl
theorem ok25 : TIok Tryz.prog 25 ⟨.struct [(0, 22), (1, 23)], 2, 48, [.nil, .nil], false⟩ := TIok.of (.agg #[.slice none 0 0, .slice none 0 0]) Tryz.underlying25 (fields_of rfl) (by kernel_rfl) rfl rfl rfl
theorem ok26 : TIok Tryz.prog 26 ⟨.other, 1, 8, [.d .nilfn], false⟩ := TIok.of (.nilFunc) Tryz.underlying26 (rfl) (by kernel_rfl) rfl rfl rfl
theorem ok27 : TIok Tryz.prog 27 ⟨.other, 1, 8, [.d .nilfn], false⟩ := TIok.of (.nilFunc) Tryz.underlying27 (rfl) (by kernel_rfl) rfl rfl rfl
theorem ok28 : TIok Tryz.prog 28 ⟨.slice 179, 1, 24, [.nil], false⟩ := TIok.of (.slice none 0 0) Tryz.underlying28 (rfl) (by kernel_rfl) rfl rfl rfl
theorem ok29 : TIok Tryz.prog 29 ⟨.struct [(0, 3), (1, 28)], 2, 32, [.d (.int .i64 0), .nil], false⟩ := TIok.of (.agg #[.int .i64 0, .slice none 0 0]) Tryz.underlying29 (fields_of rfl) (by kernel_rfl) rfl rfl rfl
theorem ok30 : TIok Tryz.prog 30 ⟨.struct [(0, 3), (1, 28)], 2, 32, [.d (.int .i64 0), .nil], false⟩ := TIok.of (.agg #[.int .i64 0, .slice none 0 0]) Tryz.underlying30 (fields_of rfl) (by kernel_rfl) rfl rfl rfl
theorem ok31 : TIok Tryz.prog 31 ⟨.slice 55, 1, 24, [.nil], false⟩ := TIok.of (.slice none 0 0) Tryz.underlying31 (rfl) (by kernel_rfl) rfl rfl rfl
theorem ok32 : TIok Tryz.prog 32 ⟨.slice 51, 1, 24, [.nil], false⟩ := TIok.of (.slice none 0 0) Tryz.underlying32 (rfl) (by kernel_rfl) rfl rfl rfl
theorem ok33 : TIok Tryz.prog 33 ⟨.slice 95, 1, 24, [.nil], false⟩ := TIok.of (.slice none 0 0) Tryz.underlying33 (rfl) (by kernel_rfl) rfl rfl rfl
theorem ok34 : TIok Tryz.prog 34 ⟨.struct [(0, 30), (2, 31), (3, 32), (4, 33), (5, 3)], 6, 112, [.d (.int .i64 0), .nil, .nil, .nil, .nil, .d (.int .i64 0)], false⟩ := TIok.of (.agg #[.int .i64 0, .slice none 0 0, .slice none 0 0, .slice none 0 0, .slice none 0 0, .int .i64 0]) Tryz.underlying34 (fields_of rfl) (by kernel_rfl) rfl rfl rfl
theorem ok35 : TIok Tryz.prog 35 ⟨.struct [(0, 30), (2, 31), (3, 32), (4, 33), (5, 3)], 6, 112, [.d (.int .i64 0), .nil, .nil, .nil, .nil, .d (.int .i64 0)], false⟩ := TIok.of (.agg #[.int .i64 0, .slice none 0 0, .slice none 0 0, .slice none 0 0, .slice none 0 0, .int .i64 0]) Tryz.underlying35 (fields_of rfl) (by kernel_rfl) rfl rfl rfl
theorem ok36 : TIok Tryz.prog 36 ⟨.int .i64, 1, 8, [.d (.int .i64 0)], false⟩ := TIok.of (.int .i64 0) Tryz.underlying36 (rfl) (by kernel_rfl) rfl rfl rfl
theorem ok38 : TIok Tryz.prog 38 ⟨.other, 1, 8, [.d .nilfn], false⟩ := TIok.of (.nilFunc) Tryz.underlying38 (rfl) (by kernel_rfl) rfl rfl rfl
theorem ok39 : TIok Tryz.prog 39 ⟨.slice 3, 1, 24, [.nil], false⟩ := TIok.of (.slice none 0 0) Tryz.underlying39 (rfl) (by kernel_rfl) rfl rfl rfl
theorem ok41 : TIok Tryz.prog 41 ⟨.other, 1, 8, [.d .nilfn], false⟩ := TIok.of (.nilFunc) Tryz.underlying41 (rfl) (by kernel_rfl) rfl rfl rfl
theorem ok42 : TIok Tryz.prog 42 ⟨.other, 1, 8, [.d .nilfn], false⟩ := TIok.of (.nilFunc) Tryz.underlying42 (rfl) (by kernel_rfl) rfl rfl rfl
theorem ok43 : TIok Tryz.prog 43 ⟨.other, 1, 8, [.d .nilfn], false⟩ := TIok.of (.nilFunc) Tryz.underlying43 (rfl) (by kernel_rfl) rfl rfl rfl
theorem ok44 : TIok Tryz.prog 44 ⟨.other, 1, 8, [.d .nilfn], false⟩ := TIok.of (.nilFunc) Tryz.underlying44 (rfl) (by kernel_rfl) rfl rfl rfl
theorem ok45 : TIok Tryz.prog 45 ⟨.other, 1, 8, [.d .nilfn], false⟩ := TIok.of (.nilFunc) Tryz.underlying45 (rfl) (by kernel_rfl) rfl rfl rfl
theorem ok46 : TIok Tryz.prog 46 ⟨.slice 67, 1, 24, [.nil], false⟩ := TIok.of (.slice none 0 0) Tryz.underlying46 (rfl) (by kernel_rfl) rfl rfl rfl
theorem ok47 : TIok Tryz.prog 47 ⟨.slice 4, 1, 24, [.nil], false⟩ := TIok.of (.slice none 0 0) Tryz.underlying47 (rfl) (by kernel_rfl) rfl rfl rfl
theorem ok48 : TIok Tryz.prog 48 ⟨.slice 164, 1, 24, [.nil], false⟩ := TIok.of (.slice none 0 0) Tryz.underlying48 (rfl) (by kernel_rfl) rfl rfl rfl
theorem ok49 : TIok Tryz.prog 49 ⟨.slice 126, 1, 24, [.nil], false⟩ := TIok.of (.slice none 0 0) Tryz.underlying49 (rfl) (by kernel_rfl) rfl rfl rfl
theorem ok50 : TIok Tryz.prog 50 ⟨.struct [(0, 46), (1, 47), (2, 39), (3, 48), (4, 49)], 5, 120, [.nil, .nil, .nil, .nil, .nil], false⟩ := TIok.of (.agg #[.slice none 0 0, .slice none 0 0, .slice none 0 0, .slice none 0 0, .slice none 0 0]) Tryz.underlying50 (fields_of rfl) (by kernel_rfl) rfl rfl rfl
theorem ok51 : TIok Tryz.prog 51 ⟨.struct [(0, 46), (1, 47), (2, 39), (3, 48), (4, 49)], 5, 120, [.nil, .nil, .nil, .nil, .nil], false⟩ := TIok.of (.agg #[.slice none 0 0, .slice none 0 0, .slice none 0 0, .slice none 0 0, .slice none 0 0]) Tryz.underlying51 (fields_of rfl) (by kernel_rfl) rfl rfl rfl
theorem ok53 : TIok Tryz.prog 53 ⟨.other, 1, 8, [.d .nilfn], false⟩ := TIok.of (.nilFunc) Tryz.underlying53 (rfl) (by kernel_rfl) rfl rfl rfl
theorem ok54 : TIok Tryz.prog 54 ⟨.struct [(0, 3), (1, 3)], 2, 16, [.d (.int .i64 0), .d (.int .i64 0)], true⟩ := TIok.of (.agg #[.int .i64 0, .int .i64 0]) Tryz.underlying54 (fields_of rfl) (by kernel_rfl) rfl rfl rfl
theorem ok55 : TIok Tryz.prog 55 ⟨.struct [(0, 3), (1, 3)], 2, 16, [.d (.int .i64 0), .d (.int .i64 0)], true⟩ := TIok.of (.agg #[.int .i64 0, .int .i64 0]) Tryz.underlying55 (fields_of rfl) (by kernel_rfl) rfl rfl rfl
theorem ok56 : TIok Tryz.prog 56 ⟨.struct [(0, 55), (2, 46)], 3, 40, [.d (.int .i64 0), .d (.int .i64 0), .nil], false⟩ := TIok.of (.agg #[.int .i64 0, .int .i64 0, .slice none 0 0]) Tryz.underlying56 (fields_of rfl) (by kernel_rfl) rfl rfl rfl
theorem ok57 : TIok Tryz.prog 57 ⟨.struct [(0, 55), (2, 46)], 3, 40, [.d (.int .i64 0), .d (.int .i64 0), .nil], false⟩ := TIok.of (.agg #[.int .i64 0, .int .i64 0, .slice none 0 0]) Tryz.underlying57 (fields_of rfl) (by kernel_rfl) rfl rfl rfl
theorem ok58 : TIok Tryz.prog 58 ⟨.other, 1, 8, [.d .nilfn], false⟩ := TIok.of (.nilFunc) Tryz.underlying58 (rfl) (by kernel_rfl) rfl rfl rfl
theorem ok59 : TIok Tryz.prog 59 ⟨.struct [(0, 46), (1, 47), (2, 39), (3, 48), (4, 49)], 5, 120, [.nil, .nil, .nil, .nil, .nil], false⟩ := TIok.of (.agg #[.slice none 0 0, .slice none 0 0, .slice none 0 0, .slice none 0 0, .slice none 0 0]) Tryz.underlying59 (fields_of rfl) (by kernel_rfl) rfl rfl rfl
theorem ok60 : TIok Tryz.prog 60 ⟨.other, 1, 8, [.d .nilfn], false⟩ := TIok.of (.nilFunc) Tryz.underlying60 (rfl) (by kernel_rfl) rfl rfl rfl
theorem ok62 : TIok Tryz.prog 62 ⟨.other, 1, 8, [.d .nilfn], false⟩ := TIok.of (.nilFunc) Tryz.underlying62 (rfl) (by kernel_rfl) rfl rfl rfl
theorem ok63 : TIok Tryz.prog 63 ⟨.other, 1, 8, [.d .nilfn], false⟩ := TIok.of (.nilFunc) Tryz.underlying63 (rfl) (by kernel_rfl) rfl rfl rfl
theorem ok64 : TIok Tryz.prog 64 ⟨.slice 108, 1, 24, [.nil], false⟩ := TIok.of (.slice none 0 0) Tryz.underlying64 (rfl) (by kernel_rfl) rfl rfl rfl
theorem ok65 : TIok Tryz.prog 65 ⟨.slice 200, 1, 24, [.nil], false⟩ := TIok.of (.slice none 0 0) Tryz.underlying65 (rfl) (by kernel_rfl) rfl rfl rfl
theorem ok66 : TIok Tryz.prog 66 ⟨.struct [(0, 3), (1, 3), (2, 3), (3, 65)], 4, 48, [.d (.int .i64 0), .d (.int .i64 0), .d (.int .i64 0), .nil], false⟩ := TIok.of (.agg #[.int .i64 0, .int .i64 0, .int .i64 0, .slice none 0 0]) Tryz.underlying66 (fields_of rfl) (by kernel_rfl) rfl rfl rfl
theorem ok67 : TIok Tryz.prog 67 ⟨.struct [(0, 3), (1, 3), (2, 3), (3, 65)], 4, 48, [.d (.int .i64 0), .d (.int .i64 0), .d (.int .i64 0), .nil], false⟩ := TIok.of (.agg #[.int .i64 0, .int .i64 0, .int .i64 0, .slice none 0 0]) Tryz.underlying67 (fields_of rfl) (by kernel_rfl) rfl rfl rfl
theorem ok68 : TIok Tryz.prog 68 ⟨.struct [(0, 3), (1, 3), (2, 3), (3, 3), (4, 67)], 8, 80, [.d (.int .i64 0), .d (.int .i64 0), .d (.int .i64 0), .d (.int .i64 0), .d (.int .i64 0), .d (.int .i64 0), .d (.int .i64 0), .nil], false⟩ := TIok.of (.agg #[.int .i64 0, .int .i64 0, .int .i64 0, .int .i64 0, .int .i64 0, .int .i64 0, .int .i64 0, .slice none 0 0]) Tryz.underlying68 (fields_of rfl) (by kernel_rfl) rfl rfl rfl
theorem ok69 : TIok Tryz.prog 69 ⟨.struct [(0, 3), (1, 3), (2, 3), (3, 3), (4, 67)], 8, 80, [.d (.int .i64 0), .d (.int .i64 0), .d (.int .i64 0), .d (.int .i64 0), .d (.int .i64 0), .d (.int .i64 0), .d (.int .i64 0), .nil], false⟩ := TIok.of (.agg #[.int .i64 0, .int .i64 0, .int .i64 0, .int .i64 0, .int .i64 0, .int .i64 0, .int .i64 0, .slice none 0 0]) Tryz.underlying69 (fields_of rfl) (by kernel_rfl) rfl rfl rfl
theorem ok70 : TIok Tryz.prog 70 ⟨.other, 1, 8, [.d .nilfn], false⟩ := TIok.of (.nilFunc) Tryz.underlying70 (rfl) (by kernel_rfl) rfl rfl rfl
theorem ok71 : TIok Tryz.prog 71 ⟨.other, 1, 8, [.d .nilfn], false⟩ := TIok.of (.nilFunc) Tryz.underlying71 (rfl) (by kernel_rfl) rfl rfl rfl
theorem ok73 : TIok Tryz.prog 73 ⟨.other, 1, 8, [.d .nilfn], false⟩ := TIok.of (.nilFunc) Tryz.underlying73 (rfl) (by kernel_rfl) rfl rfl rfl
theorem ok74 : TIok Tryz.prog 74 ⟨.other, 1, 8, [.d .nilfn], false⟩ := TIok.of (.nilFunc) Tryz.underlying74 (rfl) (by kernel_rfl) rfl rfl rfl
theorem ok75 : TIok Tryz.prog 75 ⟨.other, 1, 8, [.d .nilfn], false⟩ := TIok.of (.nilFunc) Tryz.underlying75 (rfl) (by kernel_rfl) rfl rfl rfl
theorem ok77 : TIok Tryz.prog 77 ⟨.other, 1, 8, [.d .nilfn], false⟩ := TIok.of (.nilFunc) Tryz.underlying77 (rfl) (by kernel_rfl) rfl rfl rfl
theorem ok78 : TIok Tryz.prog 78 ⟨.other, 1, 8, [.d .nilfn], false⟩ := TIok.of (.nilFunc) Tryz.underlying78 (rfl) (by kernel_rfl) rfl rfl rfl
theorem ok79 : TIok Tryz.prog 79 ⟨.other, 1, 8, [.d .nilfn], false⟩ := TIok.of (.nilFunc) Tryz.underlying79 (rfl) (by kernel_rfl) rfl rfl rfl
theorem ok80 : TIok Tryz.prog 80 ⟨.other, 1, 8, [.d .nilfn], false⟩ := TIok.of (.nilFunc) Tryz.underlying80 (rfl) (by kernel_rfl) rfl rfl rfl
theorem ok81 : TIok Tryz.prog 81 ⟨.other, 1, 8, [.d .nilfn], false⟩ := TIok.of (.nilFunc) Tryz.underlying81 (rfl) (by kernel_rfl) rfl rfl rfl
theorem ok83 : TIok Tryz.prog 83 ⟨.other, 1, 8, [.d .nilfn], false⟩ := TIok.of (.nilFunc) Tryz.underlying83 (rfl) (by kernel_rfl) rfl rfl rfl
theorem ok84 : TIok Tryz.prog 84 ⟨.other, 1, 8, [.d .nilfn], false⟩ := TIok.of (.nilFunc) Tryz.underlying84 (rfl) (by kernel_rfl) rfl rfl rfl
theorem ok86 : TIok Tryz.prog 86 ⟨.other, 1, 8, [.d .nilfn], false⟩ := TIok.of (.nilFunc) Tryz.underlying86 (rfl) (by kernel_rfl) rfl rfl rfl
theorem ok87 : TIok Tryz.prog 87 ⟨.other, 1, 8, [.d .nilfn], false⟩ := TIok.of (.nilFunc) Tryz.underlying87 (rfl) (by kernel_rfl) rfl rfl rfl
theorem ok88 : TIok Tryz.prog 88 ⟨.other, 1, 8, [.d .nilfn], false⟩ := TIok.of (.nilFunc) Tryz.underlying88 (rfl) (by kernel_rfl) rfl rfl rfl
theorem ok89 : TIok Tryz.prog 89 ⟨.struct [(0, 3), (1, 3), (2, 3)], 3, 24, [.d (.int .i64 0), .d (.int .i64 0), .d (.int .i64 0)], true⟩ := TIok.of (.agg #[.int .i64 0, .int .i64 0, .int .i64 0]) Tryz.underlying89 (fields_of rfl) (by kernel_rfl) rfl rfl rfl
theorem ok90 : TIok Tryz.prog 90 ⟨.struct [(0, 3), (1, 3), (2, 3)], 3, 24, [.d (.int .i64 0), .d (.int .i64 0), .d (.int .i64 0)], true⟩ := TIok.of (.agg #[.int .i64 0, .int .i64 0, .int .i64 0]) Tryz.underlying90 (fields_of rfl) (by kernel_rfl) rfl rfl rfl
theorem ok91 : TIok Tryz.prog 91 ⟨.other, 1, 8, [.d .nilfn], false⟩ := TIok.of (.nilFunc) Tryz.underlying91 (rfl) (by kernel_rfl) rfl rfl rfl
theorem ok92 : TIok Tryz.prog 92 ⟨.struct [(0, 39), (1, 3), (2, 3)], 3, 40, [.nil, .d (.int .i64 0), .d (.int .i64 0)], false⟩ := TIok.of (.agg #[.slice none 0 0, .int .i64 0, .int .i64 0]) Tryz.underlying92 (fields_of rfl) (by kernel_rfl) rfl rfl rfl
theorem ok93 : TIok Tryz.prog 93 ⟨.struct [(0, 39), (1, 3), (2, 3)], 3, 40, [.nil, .d (.int .i64 0), .d (.int .i64 0)], false⟩ := TIok.of (.agg #[.slice none 0 0, .int .i64 0, .int .i64 0]) Tryz.underlying93 (fields_of rfl) (by kernel_rfl) rfl rfl rfl
theorem ok94 : TIok Tryz.prog 94 ⟨.struct [(0, 90), (3, 93), (6, 93)], 9, 104, [.d (.int .i64 0), .d (.int .i64 0), .d (.int .i64 0), .nil, .d (.int .i64 0), .d (.int .i64 0), .nil, .d (.int .i64 0), .d (.int .i64 0)], false⟩ := TIok.of (.agg #[.int .i64 0, .int .i64 0, .int .i64 0, .slice none 0 0, .int .i64 0, .int .i64 0, .slice none 0 0, .int .i64 0, .int .i64 0]) Tryz.underlying94 (fields_of rfl) (by kernel_rfl) rfl rfl rfl
theorem ok95 : TIok Tryz.prog 95 ⟨.struct [(0, 90), (3, 93), (6, 93)], 9, 104, [.d (.int .i64 0), .d (.int .i64 0), .d (.int .i64 0), .nil, .d (.int .i64 0), .d (.int .i64 0), .nil, .d (.int .i64 0), .d (.int .i64 0)], false⟩ := TIok.of (.agg #[.int .i64 0, .int .i64 0, .int .i64 0, .slice none 0 0, .int .i64 0, .int .i64 0, .slice none 0 0, .int .i64 0, .int .i64 0]) Tryz.underlying95 (fields_of rfl) (by kernel_rfl) rfl rfl rfl
theorem ok96 : TIok Tryz.prog 96 ⟨.other, 1, 8, [.d .nilfn], false⟩ := TIok.of (.nilFunc) Tryz.underlying96 (rfl) (by kernel_rfl) rfl rfl rfl
theorem ok97 : TIok Tryz.prog 97 ⟨.slice 5, 1, 24, [.nil], false⟩ := TIok.of (.slice none 0 0) Tryz.underlying97 (rfl) (by kernel_rfl) rfl rfl rfl
theorem ok98 : TIok Tryz.prog 98 ⟨.other, 1, 8, [.d .nilfn], false⟩ := TIok.of (.nilFunc) Tryz.underlying98 (rfl) (by kernel_rfl) rfl rfl rfl
theorem ok99 : TIok Tryz.prog 99 ⟨.slice 111, 1, 24, [.nil], false⟩ := TIok.of (.slice none 0 0) Tryz.underlying99 (rfl) (by kernel_rfl) rfl rfl rfl
theorem ok101 : TIok Tryz.prog 101 ⟨.other, 1, 8, [.d .nilfn], false⟩ := TIok.of (.nilFunc) Tryz.underlying101 (rfl) (by kernel_rfl) rfl rfl rfl
theorem ok102 : TIok Tryz.prog 102 ⟨.slice 106, 1, 24, [.nil], false⟩ := TIok.of (.slice none 0 0) Tryz.underlying102 (rfl) (by kernel_rfl) rfl rfl rfl
theorem ok103 : TIok Tryz.prog 103 ⟨.other, 1, 8, [.d .nilfn], false⟩ := TIok.of (.nilFunc) Tryz.underlying103 (rfl) (by kernel_rfl) rfl rfl rfl
theorem ok105 : TIok Tryz.prog 105 ⟨.other, 1, 8, [.d .nilfn], false⟩ := TIok.of (.nilFunc) Tryz.underlying105 (rfl) (by kernel_rfl) rfl rfl rfl
theorem ok106 : TIok Tryz.prog 106 ⟨.slice 69, 1, 24, [.nil], false⟩ := TIok.of (.slice none 0 0) Tryz.underlying106 (rfl) (by kernel_rfl) rfl rfl rfl
theorem ok107 : TIok Tryz.prog 107 ⟨.struct [(0, 106)], 1, 24, [.nil], false⟩ := TIok.of (.agg #[.slice none 0 0]) Tryz.underlying107 (fields_of rfl) (by kernel_rfl) rfl rfl rfl
theorem ok108 : TIok Tryz.prog 108 ⟨.struct [(0, 106)], 1, 24, [.nil], false⟩ := TIok.of (.agg #[.slice none 0 0]) Tryz.underlying108 (fields_of rfl) (by kernel_rfl) rfl rfl rfl
theorem ok109 : TIok Tryz.prog 109 ⟨.slice 113, 1, 24, [.nil], false⟩ := TIok.of (.slice none 0 0) Tryz.underlying109 (rfl) (by kernel_rfl) rfl rfl rfl
theorem ok110 : TIok Tryz.prog 110 ⟨.struct [(0, 109), (1, 39), (2, 49)], 3, 72, [.nil, .nil, .nil], false⟩ := TIok.of (.agg #[.slice none 0 0, .slice none 0 0, .slice none 0 0]) Tryz.underlying110 (fields_of rfl) (by kernel_rfl) rfl rfl rfl
theorem ok111 : TIok Tryz.prog 111 ⟨.struct [(0, 109), (1, 39), (2, 49)], 3, 72, [.nil, .nil, .nil], false⟩ := TIok.of (.agg #[.slice none 0 0, .slice none 0 0, .slice none 0 0]) Tryz.underlying111 (fields_of rfl) (by kernel_rfl) rfl rfl rfl
theorem ok112 : TIok Tryz.prog 112 ⟨.struct [(0, 3), (1, 3), (2, 36)], 3, 24, [.d (.int .i64 0), .d (.int .i64 0), .d (.int .i64 0)], true⟩ := TIok.of (.agg #[.int .i64 0, .int .i64 0, .int .i64 0]) Tryz.underlying112 (fields_of rfl) (by kernel_rfl) rfl rfl rfl
theorem ok113 : TIok Tryz.prog 113 ⟨.struct [(0, 3), (1, 3), (2, 36)], 3, 24, [.d (.int .i64 0), .d (.int .i64 0), .d (.int .i64 0)], true⟩ := TIok.of (.agg #[.int .i64 0, .int .i64 0, .int .i64 0]) Tryz.underlying113 (fields_of rfl) (by kernel_rfl) rfl rfl rfl
theorem ok114 : TIok Tryz.prog 114 ⟨.other, 1, 8, [.d .nilfn], false⟩ := TIok.of (.nilFunc) Tryz.underlying114 (rfl) (by kernel_rfl) rfl rfl rfl
theorem ok115 : TIok Tryz.prog 115 ⟨.other, 1, 8, [.d .nilfn], false⟩ := TIok.of (.nilFunc) Tryz.underlying115 (rfl) (by kernel_rfl) rfl rfl rfl
theorem ok116 : TIok Tryz.prog 116 ⟨.other, 1, 8, [.d .nilfn], false⟩ := TIok.of (.nilFunc) Tryz.underlying116 (rfl) (by kernel_rfl) rfl rfl rfl
theorem ok117 : TIok Tryz.prog 117 ⟨.other, 1, 8, [.d .nilfn], false⟩ := TIok.of (.nilFunc) Tryz.underlying117 (rfl) (by kernel_rfl) rfl rfl rfl
theorem ok118 : TIok Tryz.prog 118 ⟨.other, 1, 8, [.d .nilfn], false⟩ := TIok.of (.nilFunc) Tryz.underlying118 (rfl) (by kernel_rfl) rfl rfl rfl
theorem ok119 : TIok Tryz.prog 119 ⟨.other, 1, 8, [.d .nilfn], false⟩ := TIok.of (.nilFunc) Tryz.underlying119 (rfl) (by kernel_rfl) rfl rfl rfl
theorem ok120 : TIok Tryz.prog 120 ⟨.other, 1, 8, [.d .nilfn], false⟩ := TIok.of (.nilFunc) Tryz.underlying120 (rfl) (by kernel_rfl) rfl rfl rfl
theorem ok122 : TIok Tryz.prog 122 ⟨.other, 1, 8, [.d .nilfn], false⟩ := TIok.of (.nilFunc) Tryz.underlying122 (rfl) (by kernel_rfl) rfl rfl rfl
theorem ok123 : TIok Tryz.prog 123 ⟨.other, 1, 8, [.d .nilfn], false⟩ := TIok.of (.nilFunc) Tryz.underlying123 (rfl) (by kernel_rfl) rfl rfl rfl
theorem ok124 : TIok Tryz.prog 124 ⟨.other, 1, 8, [.d .nilfn], false⟩ := TIok.of (.nilFunc) Tryz.underlying124 (rfl) (by kernel_rfl) rfl rfl rfl
theorem ok125 : TIok Tryz.prog 125 ⟨.struct [(0, 3), (1, 3), (2, 3)], 3, 24, [.d (.int .i64 0), .d (.int .i64 0), .d (.int .i64 0)], true⟩ := TIok.of (.agg #[.int .i64 0, .int .i64 0, .int .i64 0]) Tryz.underlying125 (fields_of rfl) (by kernel_rfl) rfl rfl rfl
theorem ok126 : TIok Tryz.prog 126 ⟨.struct [(0, 3), (1, 3), (2, 3)], 3, 24, [.d (.int .i64 0), .d (.int .i64 0), .d (.int .i64 0)], true⟩ := TIok.of (.agg #[.int .i64 0, .int .i64 0, .int .i64 0]) Tryz.underlying126 (fields_of rfl) (by kernel_rfl) rfl rfl rfl
theorem ok127 : TIok Tryz.prog 127 ⟨.other, 1, 8, [.d .nilfn], false⟩ := TIok.of (.nilFunc) Tryz.underlying127 (rfl) (by kernel_rfl) rfl rfl rfl
theorem ok129 : TIok Tryz.prog 129 ⟨.other, 1, 8, [.d .nilfn], false⟩ := TIok.of (.nilFunc) Tryz.underlying129 (rfl) (by kernel_rfl) rfl rfl rfl
theorem ok131 : TIok Tryz.prog 131 ⟨.other, 1, 8, [.d .nilfn], false⟩ := TIok.of (.nilFunc) Tryz.underlying131 (rfl) (by kernel_rfl) rfl rfl rfl
theorem ok132 : TIok Tryz.prog 132 ⟨.other, 1, 8, [.d .nilfn], false⟩ := TIok.of (.nilFunc) Tryz.underlying132 (rfl) (by kernel_rfl) rfl rfl rfl
theorem ok133 : TIok Tryz.prog 133 ⟨.other, 1, 8, [.d .nilfn], false⟩ := TIok.of (.nilFunc) Tryz.underlying133 (rfl) (by kernel_rfl) rfl rfl rfl
theorem ok134 : TIok Tryz.prog 134 ⟨.other, 1, 8, [.d .nilfn], false⟩ := TIok.of (.nilFunc) Tryz.underlying134 (rfl) (by kernel_rfl) rfl rfl rfl
theorem ok135 : TIok Tryz.prog 135 ⟨.other, 1, 8, [.d .nilfn], false⟩ := TIok.of (.nilFunc) Tryz.underlying135 (rfl) (by kernel_rfl) rfl rfl rfl
theorem ok136 : TIok Tryz.prog 136 ⟨.other, 1, 8, [.d .nilfn], false⟩ := TIok.of (.nilFunc) Tryz.underlying136 (rfl) (by kernel_rfl) rfl rfl rfl
theorem ok137 : TIok Tryz.prog 137 ⟨.other, 1, 8, [.d .nilfn], false⟩ := TIok.of (.nilFunc) Tryz.underlying137 (rfl) (by kernel_rfl) rfl rfl rfl
theorem ok138 : TIok Tryz.prog 138 ⟨.other, 1, 8, [.d .nilfn], false⟩ := TIok.of (.nilFunc) Tryz.underlying138 (rfl) (by kernel_rfl) rfl rfl rfl
theorem ok139 : TIok Tryz.prog 139 ⟨.other, 1, 8, [.d .nilfn], false⟩ := TIok.of (.nilFunc) Tryz.underlying139 (rfl) (by kernel_rfl) rfl rfl rfl
theorem ok140 : TIok Tryz.prog 140 ⟨.other, 1, 8, [.d .nilfn], false⟩ := TIok.of (.nilFunc) Tryz.underlying140 (rfl) (by kernel_rfl) rfl rfl rfl
theorem ok141 : TIok Tryz.prog 141 ⟨.other, 1, 8, [.d .nilfn], false⟩ := TIok.of (.nilFunc) Tryz.underlying141 (rfl) (by kernel_rfl) rfl rfl rfl
theorem ok142 : TIok Tryz.prog 142 ⟨.other, 1, 8, [.d .nilfn], false⟩ := TIok.of (.nilFunc) Tryz.underlying142 (rfl) (by kernel_rfl) rfl rfl rfl
theorem ok143 : TIok Tryz.prog 143 ⟨.other, 1, 8, [.d .nilfn], false⟩ := TIok.of (.nilFunc) Tryz.underlying143 (rfl) (by kernel_rfl) rfl rfl rfl
theorem ok144 : TIok Tryz.prog 144 ⟨.other, 1, 8, [.d .nilfn], false⟩ := TIok.of (.nilFunc) Tryz.underlying144 (rfl) (by kernel_rfl) rfl rfl rfl
theorem ok146 : TIok Tryz.prog 146 ⟨.other, 1, 8, [.d .nilfn], false⟩ := TIok.of (.nilFunc) Tryz.underlying146 (rfl) (by kernel_rfl) rfl rfl rfl
theorem ok147 : TIok Tryz.prog 147 ⟨.other, 1, 8, [.d .nilfn], false⟩ := TIok.of (.nilFunc) Tryz.underlying147 (rfl) (by kernel_rfl) rfl rfl rfl
theorem ok148 : TIok Tryz.prog 148 ⟨.slice 213, 1, 24, [.nil], false⟩ := TIok.of (.slice none 0 0) Tryz.underlying148 (rfl) (by kernel_rfl) rfl rfl rfl
theorem ok149 : TIok Tryz.prog 149 ⟨.other, 1, 8, [.d .nilfn], false⟩ := TIok.of (.nilFunc) Tryz.underlying149 (rfl) (by kernel_rfl) rfl rfl rfl
theorem ok151 : TIok Tryz.prog 151 ⟨.other, 1, 8, [.d .nilfn], false⟩ := TIok.of (.nilFunc) Tryz.underlying151 (rfl) (by kernel_rfl) rfl rfl rfl
theorem ok152 : TIok Tryz.prog 152 ⟨.other, 1, 8, [.d .nilfn], false⟩ := TIok.of (.nilFunc) Tryz.underlying152 (rfl) (by kernel_rfl) rfl rfl rfl
theorem ok153 : TIok Tryz.prog 153 ⟨.other, 1, 8, [.nilptr], false⟩ := TIok.of (.pointer none) Tryz.underlying153 (rfl) (by kernel_rfl) rfl rfl rfl
theorem ok154 : TIok Tryz.prog 154 ⟨.other, 1, 8, [.d .nilfn], false⟩ := TIok.of (.nilFunc) Tryz.underlying154 (rfl) (by kernel_rfl) rfl rfl rfl
theorem ok156 : TIok Tryz.prog 156 ⟨.other, 1, 8, [.d .nilfn], false⟩ := TIok.of (.nilFunc) Tryz.underlying156 (rfl) (by kernel_rfl) rfl rfl rfl
theorem ok157 : TIok Tryz.prog 157 ⟨.other, 1, 8, [.d .nilfn], false⟩ := TIok.of (.nilFunc) Tryz.underlying157 (rfl) (by kernel_rfl) rfl rfl rfl
theorem ok158 : TIok Tryz.prog 158 ⟨.struct [(0, 49), (1, 3)], 2, 32, [.nil, .d (.int .i64 0)], false⟩ := TIok.of (.agg #[.slice none 0 0, .int .i64 0]) Tryz.underlying158 (fields_of rfl) (by kernel_rfl) rfl rfl rfl
theorem ok159 : TIok Tryz.prog 159 ⟨.struct [(0, 49), (1, 3)], 2, 32, [.nil, .d (.int .i64 0)], false⟩ := TIok.of (.agg #[.slice none 0 0, .int .i64 0]) Tryz.underlying159 (fields_of rfl) (by kernel_rfl) rfl rfl rfl
theorem ok160 : TIok Tryz.prog 160 ⟨.struct [(0, 159), (2, 51)], 7, 152, [.nil, .d (.int .i64 0), .nil, .nil, .nil, .nil, .nil], false⟩ := TIok.of (.agg #[.slice none 0 0, .int .i64 0, .slice none 0 0, .slice none 0 0, .slice none 0 0, .slice none 0 0, .slice none 0 0]) Tryz.underlying160 (fields_of rfl) (by kernel_rfl) rfl rfl rfl
theorem ok161 : TIok Tryz.prog 161 ⟨.struct [(0, 159), (2, 51)], 7, 152, [.nil, .d (.int .i64 0), .nil, .nil, .nil, .nil, .nil], false⟩ := TIok.of (.agg #[.slice none 0 0, .int .i64 0, .slice none 0 0, .slice none 0 0, .slice none 0 0, .slice none 0 0, .slice none 0 0]) Tryz.underlying161 (fields_of rfl) (by kernel_rfl) rfl rfl rfl
theorem ok162 : TIok Tryz.prog 162 ⟨.other, 1, 8, [.d .nilfn], false⟩ := TIok.of (.nilFunc) Tryz.underlying162 (rfl) (by kernel_rfl) rfl rfl rfl
theorem ok163 : TIok Tryz.prog 163 ⟨.struct [(0, 3), (1, 3), (2, 3), (3, 3), (4, 3), (5, 4)], 6, 48, [.d (.int .i64 0), .d (.int .i64 0), .d (.int .i64 0), .d (.int .i64 0), .d (.int .i64 0), .d (.bool false)], true⟩ := TIok.of (.agg #[.int .i64 0, .int .i64 0, .int .i64 0, .int .i64 0, .int .i64 0, .bool false]) Tryz.underlying163 (fields_of rfl) (by kernel_rfl) rfl rfl rfl
theorem ok164 : TIok Tryz.prog 164 ⟨.struct [(0, 3), (1, 3), (2, 3), (3, 3), (4, 3), (5, 4)], 6, 48, [.d (.int .i64 0), .d (.int .i64 0), .d (.int .i64 0), .d (.int .i64 0), .d (.int .i64 0), .d (.bool false)], true⟩ := TIok.of (.agg #[.int .i64 0, .int .i64 0, .int .i64 0, .int .i64 0, .int .i64 0, .bool false]) Tryz.underlying164 (fields_of rfl) (by kernel_rfl) rfl rfl rfl
theorem ok165 : TIok Tryz.prog 165 ⟨.other, 1, 8, [.d .nilfn], false⟩ := TIok.of (.nilFunc) Tryz.underlying165 (rfl) (by kernel_rfl) rfl rfl rfl
theorem ok166 : TIok Tryz.prog 166 ⟨.other, 1, 8, [.d .nilfn], false⟩ := TIok.of (.nilFunc) Tryz.underlying166 (rfl) (by kernel_rfl) rfl rfl rfl
theorem ok168 : TIok Tryz.prog 168 ⟨.other, 1, 8, [.d .nilfn], false⟩ := TIok.of (.nilFunc) Tryz.underlying168 (rfl) (by kernel_rfl) rfl rfl rfl
theorem ok169 : TIok Tryz.prog 169 ⟨.other, 1, 8, [.d .nilfn], false⟩ := TIok.of (.nilFunc) Tryz.underlying169 (rfl) (by kernel_rfl) rfl rfl rfl
theorem ok170 : TIok Tryz.prog 170 ⟨.other, 1, 8, [.d .nilfn], false⟩ := TIok.of (.nilFunc) Tryz.underlying170 (rfl) (by kernel_rfl) rfl rfl rfl
theorem ok171 : TIok Tryz.prog 171 ⟨.other, 1, 8, [.d .nilfn], false⟩ := TIok.of (.nilFunc) Tryz.underlying171 (rfl) (by kernel_rfl) rfl rfl rfl
theorem ok172 : TIok Tryz.prog 172 ⟨.other, 1, 8, [.d .nilfn], false⟩ := TIok.of (.nilFunc) Tryz.underlying172 (rfl) (by kernel_rfl) rfl rfl rfl
theorem ok173 : TIok Tryz.prog 173 ⟨.other, 1, 8, [.d .nilfn], false⟩ := TIok.of (.nilFunc) Tryz.underlying173 (rfl) (by kernel_rfl) rfl rfl rfl
theorem ok174 : TIok Tryz.prog 174 ⟨.other, 1, 8, [.d .nilfn], false⟩ := TIok.of (.nilFunc) Tryz.underlying174 (rfl) (by kernel_rfl) rfl rfl rfl
theorem ok175 : TIok Tryz.prog 175 ⟨.other, 1, 8, [.d .nilfn], false⟩ := TIok.of (.nilFunc) Tryz.underlying175 (rfl) (by kernel_rfl) rfl rfl rfl
theorem ok176 : TIok Tryz.prog 176 ⟨.other, 1, 8, [.d .nilfn], false⟩ := TIok.of (.nilFunc) Tryz.underlying176 (rfl) (by kernel_rfl) rfl rfl rfl
theorem ok177 : TIok Tryz.prog 177 ⟨.other, 1, 8, [.d .nilfn], false⟩ := TIok.of (.nilFunc) Tryz.underlying177 (rfl) (by kernel_rfl) rfl rfl rfl
theorem ok178 : TIok Tryz.prog 178 ⟨.struct [(0, 3), (1, 3), (2, 3)], 3, 24, [.d (.int .i64 0), .d (.int .i64 0), .d (.int .i64 0)], true⟩ := TIok.of (.agg #[.int .i64 0, .int .i64 0, .int .i64 0]) Tryz.underlying178 (fields_of rfl) (by kernel_rfl) rfl rfl rfl
theorem ok179 : TIok Tryz.prog 179 ⟨.struct [(0, 3), (1, 3), (2, 3)], 3, 24, [.d (.int .i64 0), .d (.int .i64 0), .d (.int .i64 0)], true⟩ := TIok.of (.agg #[.int .i64 0, .int .i64 0, .int .i64 0]) Tryz.underlying179 (fields_of rfl) (by kernel_rfl) rfl rfl rfl
theorem ok180 : TIok Tryz.prog 180 ⟨.other, 1, 8, [.d .nilfn], false⟩ := TIok.of (.nilFunc) Tryz.underlying180 (rfl) (by kernel_rfl) rfl rfl rfl
theorem ok181 : TIok Tryz.prog 181 ⟨.other, 1, 8, [.d .nilfn], false⟩ := TIok.of (.nilFunc) Tryz.underlying181 (rfl) (by kernel_rfl) rfl rfl rfl
theorem ok182 : TIok Tryz.prog 182 ⟨.other, 1, 8, [.d .nilfn], false⟩ := TIok.of (.nilFunc) Tryz.underlying182 (rfl) (by kernel_rfl) rfl rfl rfl
theorem ok183 : TIok Tryz.prog 183 ⟨.other, 1, 8, [.d .nilfn], false⟩ := TIok.of (.nilFunc) Tryz.underlying183 (rfl) (by kernel_rfl) rfl rfl rfl
theorem ok185 : TIok Tryz.prog 185 ⟨.other, 1, 8, [.d .nilfn], false⟩ := TIok.of (.nilFunc) Tryz.underlying185 (rfl) (by kernel_rfl) rfl rfl rfl
theorem ok186 : TIok Tryz.prog 186 ⟨.other, 1, 8, [.d .nilfn], false⟩ := TIok.of (.nilFunc) Tryz.underlying186 (rfl) (by kernel_rfl) rfl rfl rfl
theorem ok187 : TIok Tryz.prog 187 ⟨.other, 1, 8, [.nilptr], false⟩ := TIok.of (.pointer none) Tryz.underlying187 (rfl) (by kernel_rfl) rfl rfl rfl
theorem ok188 : TIok Tryz.prog 188 ⟨.struct [(0, 97), (1, 3), (2, 36)], 3, 40, [.nil, .d (.int .i64 0), .d (.int .i64 0)], false⟩ := TIok.of (.agg #[.slice none 0 0, .int .i64 0, .int .i64 0]) Tryz.underlying188 (fields_of rfl) (by kernel_rfl) rfl rfl rfl
theorem ok189 : TIok Tryz.prog 189 ⟨.struct [(0, 97), (1, 3), (2, 36)], 3, 40, [.nil, .d (.int .i64 0), .d (.int .i64 0)], false⟩ := TIok.of (.agg #[.slice none 0 0, .int .i64 0, .int .i64 0]) Tryz.underlying189 (fields_of rfl) (by kernel_rfl) rfl rfl rfl
theorem ok190 : TIok Tryz.prog 190 ⟨.other, 1, 8, [.d .nilfn], false⟩ := TIok.of (.nilFunc) Tryz.underlying190 (rfl) (by kernel_rfl) rfl rfl rfl
theorem ok191 : TIok Tryz.prog 191 ⟨.other, 1, 8, [.d .nilfn], false⟩ := TIok.of (.nilFunc) Tryz.underlying191 (rfl) (by kernel_rfl) rfl rfl rfl
theorem ok192 : TIok Tryz.prog 192 ⟨.other, 1, 8, [.d .nilfn], false⟩ := TIok.of (.nilFunc) Tryz.underlying192 (rfl) (by kernel_rfl) rfl rfl rfl
theorem ok193 : TIok Tryz.prog 193 ⟨.other, 1, 8, [.d .nilfn], false⟩ := TIok.of (.nilFunc) Tryz.underlying193 (rfl) (by kernel_rfl) rfl rfl rfl
theorem ok194 : TIok Tryz.prog 194 ⟨.other, 1, 8, [.d .nilfn], false⟩ := TIok.of (.nilFunc) Tryz.underlying194 (rfl) (by kernel_rfl) rfl rfl rfl
theorem ok195 : TIok Tryz.prog 195 ⟨.other, 1, 8, [.d .nilfn], false⟩ := TIok.of (.nilFunc) Tryz.underlying195 (rfl) (by kernel_rfl) rfl rfl rfl
theorem ok196 : TIok Tryz.prog 196 ⟨.other, 1, 8, [.d .nilfn], false⟩ := TIok.of (.nilFunc) Tryz.underlying196 (rfl) (by kernel_rfl) rfl rfl rfl
theorem ok197 : TIok Tryz.prog 197 ⟨.other, 1, 8, [.d .nilfn], false⟩ := TIok.of (.nilFunc) Tryz.underlying197 (rfl) (by kernel_rfl) rfl rfl rfl
theorem ok198 : TIok Tryz.prog 198 ⟨.other, 1, 8, [.d .nilfn], false⟩ := TIok.of (.nilFunc) Tryz.underlying198 (rfl) (by kernel_rfl) rfl rfl rfl
theorem ok199 : TIok Tryz.prog 199 ⟨.struct [(0, 3), (1, 3), (2, 3)], 3, 24, [.d (.int .i64 0), .d (.int .i64 0), .d (.int .i64 0)], true⟩ := TIok.of (.agg #[.int .i64 0, .int .i64 0, .int .i64 0]) Tryz.underlying199 (fields_of rfl) (by kernel_rfl) rfl rfl rfl
theorem ok200 : TIok Tryz.prog 200 ⟨.struct [(0, 3), (1, 3), (2, 3)], 3, 24, [.d (.int .i64 0), .d (.int .i64 0), .d (.int .i64 0)], true⟩ := TIok.of (.agg #[.int .i64 0, .int .i64 0, .int .i64 0]) Tryz.underlying200 (fields_of rfl) (by kernel_rfl) rfl rfl rfl
theorem ok201 : TIok Tryz.prog 201 ⟨.other, 1, 8, [.d .nilfn], false⟩ := TIok.of (.nilFunc) Tryz.underlying201 (rfl) (by kernel_rfl) rfl rfl rfl
theorem ok202 : TIok Tryz.prog 202 ⟨.other, 1, 8, [.d .nilfn], false⟩ := TIok.of (.nilFunc) Tryz.underlying202 (rfl) (by kernel_rfl) rfl rfl rfl
theorem ok203 : TIok Tryz.prog 203 ⟨.other, 1, 8, [.d .nilfn], false⟩ := TIok.of (.nilFunc) Tryz.underlying203 (rfl) (by kernel_rfl) rfl rfl rfl
theorem ok205 : TIok Tryz.prog 205 ⟨.other, 1, 8, [.d .nilfn], false⟩ := TIok.of (.nilFunc) Tryz.underlying205 (rfl) (by kernel_rfl) rfl rfl rfl
theorem ok206 : TIok Tryz.prog 206 ⟨.other, 1, 8, [.d .nilfn], false⟩ := TIok.of (.nilFunc) Tryz.underlying206 (rfl) (by kernel_rfl) rfl rfl rfl
theorem ok207 : TIok Tryz.prog 207 ⟨.other, 1, 8, [.d .nilfn], false⟩ := TIok.of (.nilFunc) Tryz.underlying207 (rfl) (by kernel_rfl) rfl rfl rfl
theorem ok208 : TIok Tryz.prog 208 ⟨.other, 1, 8, [.d .nilfn], false⟩ := TIok.of (.nilFunc) Tryz.underlying208 (rfl) (by kernel_rfl) rfl rfl rfl
theorem ok209 : TIok Tryz.prog 209 ⟨.other, 1, 8, [.d .nilfn], false⟩ := TIok.of (.nilFunc) Tryz.underlying209 (rfl) (by kernel_rfl) rfl rfl rfl
theorem ok210 : TIok Tryz.prog 210 ⟨.other, 1, 8, [.d .nilfn], false⟩ := TIok.of (.nilFunc) Tryz.underlying210 (rfl) (by kernel_rfl) rfl rfl rfl
theorem ok211 : TIok Tryz.prog 211 ⟨.other, 1, 8, [.d .nilfn], false⟩ := TIok.of (.nilFunc) Tryz.underlying211 (rfl) (by kernel_rfl) rfl rfl rfl
theorem ok212 : TIok Tryz.prog 212 ⟨.struct [(0, 90), (3, 39), (4, 39)], 5, 72, [.d (.int .i64 0), .d (.int .i64 0), .d (.int .i64 0), .nil, .nil], false⟩ := TIok.of (.agg #[.int .i64 0, .int .i64 0, .int .i64 0, .slice none 0 0, .slice none 0 0]) Tryz.underlying212 (fields_of rfl) (by kernel_rfl) rfl rfl rfl
theorem ok213 : TIok Tryz.prog 213 ⟨.struct [(0, 90), (3, 39), (4, 39)], 5, 72, [.d (.int .i64 0), .d (.int .i64 0), .d (.int .i64 0), .nil, .nil], false⟩ := TIok.of (.agg #[.int .i64 0, .int .i64 0, .int .i64 0, .slice none 0 0, .slice none 0 0]) Tryz.underlying213 (fields_of rfl) (by kernel_rfl) rfl rfl rfl
theorem ok214 : TIok Tryz.prog 214 ⟨.other, 1, 8, [.d .nilfn], false⟩ := TIok.of (.nilFunc) Tryz.underlying214 (rfl) (by kernel_rfl) rfl rfl rfl
theorem ok215 : TIok Tryz.prog 215 ⟨.other, 1, 8, [.d .nilfn], false⟩ := TIok.of (.nilFunc) Tryz.underlying215 (rfl) (by kernel_rfl) rfl rfl rfl
theorem ok216 : TIok Tryz.prog 216 ⟨.other, 1, 8, [.d .nilfn], false⟩ := TIok.of (.nilFunc) Tryz.underlying216 (rfl) (by kernel_rfl) rfl rfl rfl
theorem ok217 : TIok Tryz.prog 217 ⟨.other, 1, 8, [.nilptr], false⟩ := TIok.of (.pointer none) Tryz.underlying217 (rfl) (by kernel_rfl) rfl rfl rfl
theorem ok218 : TIok Tryz.prog 218 ⟨.other, 1, 8, [.d .nilfn], false⟩ := TIok.of (.nilFunc) Tryz.underlying218 (rfl) (by kernel_rfl) rfl rfl rfl
theorem ok219 : TIok Tryz.prog 219 ⟨.slice 170, 1, 24, [.nil], false⟩ := TIok.of (.slice none 0 0) Tryz.underlying219 (rfl) (by kernel_rfl) rfl rfl rfl
theorem ok220 : TIok Tryz.prog 220 ⟨.other, 1, 8, [.d .nilfn], false⟩ := TIok.of (.nilFunc) Tryz.underlying220 (rfl) (by kernel_rfl) rfl rfl rfl
theorem ok221 : TIok Tryz.prog 221 ⟨.other, 1, 8, [.d .nilfn], false⟩ := TIok.of (.nilFunc) Tryz.underlying221 (rfl) (by kernel_rfl) rfl rfl rfl
theorem ok222 : TIok Tryz.prog 222 ⟨.other, 1, 8, [.d .nilfn], false⟩ := TIok.of (.nilFunc) Tryz.underlying222 (rfl) (by kernel_rfl) rfl rfl rfl
theorem ok223 : TIok Tryz.prog 223 ⟨.other, 1, 8, [.d .nilfn], false⟩ := TIok.of (.nilFunc) Tryz.underlying223 (rfl) (by kernel_rfl) rfl rfl rfl
theorem ok224 : TIok Tryz.prog 224 ⟨.other, 1, 8, [.d .nilfn], false⟩ := TIok.of (.nilFunc) Tryz.underlying224 (rfl) (by kernel_rfl) rfl rfl rfl
theorem ok226 : TIok Tryz.prog 226 ⟨.other, 1, 8, [.d .nilfn], false⟩ := TIok.of (.nilFunc) Tryz.underlying226 (rfl) (by kernel_rfl) rfl rfl rfl
theorem ok228 : TIok Tryz.prog 228 ⟨.other, 1, 8, [.d .nilfn], false⟩ := TIok.of (.nilFunc) Tryz.underlying228 (rfl) (by kernel_rfl) rfl rfl rfl
theorem ok229 : TIok Tryz.prog 229 ⟨.other, 1, 8, [.d .nilfn], false⟩ := TIok.of (.nilFunc) Tryz.underlying229 (rfl) (by kernel_rfl) rfl rfl rfl
theorem ok230 : TIok Tryz.prog 230 ⟨.other, 1, 8, [.d .nilfn], false⟩ := TIok.of (.nilFunc) Tryz.underlying230 (rfl) (by kernel_rfl) rfl rfl rfl
theorem ok231 : TIok Tryz.prog 231 ⟨.other, 1, 8, [.d .nilfn], false⟩ := TIok.of (.nilFunc) Tryz.underlying231 (rfl) (by kernel_rfl) rfl rfl rfl
theorem ok232 : TIok Tryz.prog 232 ⟨.other, 1, 8, [.d .nilfn], false⟩ := TIok.of (.nilFunc) Tryz.underlying232 (rfl) (by kernel_rfl) rfl rfl rfl
theorem ok233 : TIok Tryz.prog 233 ⟨.other, 1, 8, [.d .nilfn], false⟩ := TIok.of (.nilFunc) Tryz.underlying233 (rfl) (by kernel_rfl) rfl rfl rfl
theorem ok234 : TIok Tryz.prog 234 ⟨.other, 1, 8, [.d .nilfn], false⟩ := TIok.of (.nilFunc) Tryz.underlying234 (rfl) (by kernel_rfl) rfl rfl rfl
theorem ok236 : TIok Tryz.prog 236 ⟨.other, 1, 8, [.d .nilfn], false⟩ := TIok.of (.nilFunc) Tryz.underlying236 (rfl) (by kernel_rfl) rfl rfl rfl
theorem ok237 : TIok Tryz.prog 237 ⟨.other, 1, 8, [.nilptr], false⟩ := TIok.of (.pointer none) Tryz.underlying237 (rfl) (by kernel_rfl) rfl rfl rfl
theorem ok238 : TIok Tryz.prog 238 ⟨.struct [(0, 31), (1, 39)], 2, 48, [.nil, .nil], false⟩ := TIok.of (.agg #[.slice none 0 0, .slice none 0 0]) Tryz.underlying238 (fields_of rfl) (by kernel_rfl) rfl rfl rfl
theorem ok239 : TIok Tryz.prog 239 ⟨.struct [(0, 31), (1, 39)], 2, 48, [.nil, .nil], false⟩ := TIok.of (.agg #[.slice none 0 0, .slice none 0 0]) Tryz.underlying239 (fields_of rfl) (by kernel_rfl) rfl rfl rfl
theorem ok240 : TIok Tryz.prog 240 ⟨.other, 1, 8, [.d .nilfn], false⟩ := TIok.of (.nilFunc) Tryz.underlying240 (rfl) (by kernel_rfl) rfl rfl rfl
theorem ok241 : TIok Tryz.prog 241 ⟨.other, 1, 8, [.d .nilfn], false⟩ := TIok.of (.nilFunc) Tryz.underlying241 (rfl) (by kernel_rfl) rfl rfl rfl
theorem ok242 : TIok Tryz.prog 242 ⟨.other, 1, 8, [.d .nilfn], false⟩ := TIok.of (.nilFunc) Tryz.underlying242 (rfl) (by kernel_rfl) rfl rfl rfl
theorem ok244 : TIok Tryz.prog 244 ⟨.other, 1, 8, [.d .nilfn], false⟩ := TIok.of (.nilFunc) Tryz.underlying244 (rfl) (by kernel_rfl) rfl rfl rfl
theorem ok246 : TIok Tryz.prog 246 ⟨.other, 1, 8, [.d .nilfn], false⟩ := TIok.of (.nilFunc) Tryz.underlying246 (rfl) (by kernel_rfl) rfl rfl rfl
theorem ok247 : TIok Tryz.prog 247 ⟨.other, 1, 8, [.d .nilfn], false⟩ := TIok.of (.nilFunc) Tryz.underlying247 (rfl) (by kernel_rfl) rfl rfl rfl
theorem ok248 : TIok Tryz.prog 248 ⟨.other, 1, 8, [.d .nilfn], false⟩ := TIok.of (.nilFunc) Tryz.underlying248 (rfl) (by kernel_rfl) rfl rfl rfl
theorem ok249 : TIok Tryz.prog 249 ⟨.other, 1, 8, [.d .nilfn], false⟩ := TIok.of (.nilFunc) Tryz.underlying249 (rfl) (by kernel_rfl) rfl rfl rfl
theorem ok250 : TIok Tryz.prog 250 ⟨.other, 1, 8, [.d .nilfn], false⟩ := TIok.of (.nilFunc) Tryz.underlying250 (rfl) (by kernel_rfl) rfl rfl rfl
theorem ok251 : TIok Tryz.prog 251 ⟨.other, 1, 8, [.d .nilfn], false⟩ := TIok.of (.nilFunc) Tryz.underlying251 (rfl) (by kernel_rfl) rfl rfl rfl
theorem ok253 : TIok Tryz.prog 253 ⟨.other, 1, 8, [.d .nilfn], false⟩ := TIok.of (.nilFunc) Tryz.underlying253 (rfl) (by kernel_rfl) rfl rfl rfl
theorem ok254 : TIok Tryz.prog 254 ⟨.other, 1, 8, [.d .nilfn], false⟩ := TIok.of (.nilFunc) Tryz.underlying254 (rfl) (by kernel_rfl) rfl rfl rfl
theorem ok255 : TIok Tryz.prog 255 ⟨.other, 1, 8, [.d .nilfn], false⟩ := TIok.of (.nilFunc) Tryz.underlying255 (rfl) (by kernel_rfl) rfl rfl rfl
theorem ok256 : TIok Tryz.prog 256 ⟨.other, 1, 8, [.d .nilfn], false⟩ := TIok.of (.nilFunc) Tryz.underlying256 (rfl) (by kernel_rfl) rfl rfl rfl
theorem ok257 : TIok Tryz.prog 257 ⟨.other, 1, 8, [.d .nilfn], false⟩ := TIok.of (.nilFunc) Tryz.underlying257 (rfl) (by kernel_rfl) rfl rfl rfl
theorem ok258 : TIok Tryz.prog 258 ⟨.other, 1, 8, [.d .nilfn], false⟩ := TIok.of (.nilFunc) Tryz.underlying258 (rfl) (by kernel_rfl) rfl rfl rfl
theorem ok259 : TIok Tryz.prog 259 ⟨.other, 1, 8, [.d .nilfn], false⟩ := TIok.of (.nilFunc) Tryz.underlying259 (rfl) (by kernel_rfl) rfl rfl rfl
theorem ok260 : TIok Tryz.prog 260 ⟨.other, 1, 8, [.d .nilfn], false⟩ := TIok.of (.nilFunc) Tryz.underlying260 (rfl) (by kernel_rfl) rfl rfl rfl
theorem ok261 : TIok Tryz.prog 261 ⟨.other, 1, 8, [.d .nilfn], false⟩ := TIok.of (.nilFunc) Tryz.underlying261 (rfl) (by kernel_rfl) rfl rfl rfl
theorem ok262 : TIok Tryz.prog 262 ⟨.other, 1, 8, [.d .nilfn], false⟩ := TIok.of (.nilFunc) Tryz.underlying262 (rfl) (by kernel_rfl) rfl rfl rfl
theorem ok263 : TIok Tryz.prog 263 ⟨.other, 1, 8, [.d .nilfn], false⟩ := TIok.of (.nilFunc) Tryz.underlying263 (rfl) (by kernel_rfl) rfl rfl rfl
theorem ok264 : TIok Tryz.prog 264 ⟨.other, 1, 8, [.d .nilfn], false⟩ := TIok.of (.nilFunc) Tryz.underlying264 (rfl) (by kernel_rfl) rfl rfl rfl
theorem ok265 : TIok Tryz.prog 265 ⟨.other, 1, 8, [.d .nilfn], false⟩ := TIok.of (.nilFunc) Tryz.underlying265 (rfl) (by kernel_rfl) rfl rfl rfl
theorem ok266 : TIok Tryz.prog 266 ⟨.other, 1, 8, [.d .nilfn], false⟩ := TIok.of (.nilFunc) Tryz.underlying266 (rfl) (by kernel_rfl) rfl rfl rfl
theorem ok267 : TIok Tryz.prog 267 ⟨.other, 1, 8, [.d .nilfn], false⟩ := TIok.of (.nilFunc) Tryz.underlying267 (rfl) (by kernel_rfl) rfl rfl rfl
theorem ok268 : TIok Tryz.prog 268 ⟨.other, 1, 8, [.d .nilfn], false⟩ := TIok.of (.nilFunc) Tryz.underlying268 (rfl) (by kernel_rfl) rfl rfl rfl
theorem ok269 : TIok Tryz.prog 269 ⟨.other, 1, 8, [.d .nilfn], false⟩ := TIok.of (.nilFunc) Tryz.underlying269 (rfl) (by kernel_rfl) rfl rfl rfl
theorem ok270 : TIok Tryz.prog 270 ⟨.other, 1, 8, [.d .nilfn], false⟩ := TIok.of (.nilFunc) Tryz.underlying270 (rfl) (by kernel_rfl) rfl rfl rfl
theorem ok271 : TIok Tryz.prog 271 ⟨.other, 1, 8, [.d .nilfn], false⟩ := TIok.of (.nilFunc) Tryz.underlying271 (rfl) (by kernel_rfl) rfl rfl rfl
theorem ok272 : TIok Tryz.prog 272 ⟨.other, 1, 8, [.d .nilfn], false⟩ := TIok.of (.nilFunc) Tryz.underlying272 (rfl) (by kernel_rfl) rfl rfl rfl
theorem ok273 : TIok Tryz.prog 273 ⟨.other, 1, 8, [.d .nilfn], false⟩ := TIok.of (.nilFunc) Tryz.underlying273 (rfl) (by kernel_rfl) rfl rfl rfl
theorem ok274 : TIok Tryz.prog 274 ⟨.other, 1, 8, [.d .nilfn], false⟩ := TIok.of (.nilFunc) Tryz.underlying274 (rfl) (by kernel_rfl) rfl rfl rfl
theorem ok280 : TIok Tryz.prog 280 ⟨.int .u32, 1, 4, [.d (.int .u32 0)], false⟩ := TIok.of (.int .u32 0) Tryz.underlying280 (rfl) (by kernel_rfl) rfl rfl rfl
theorem ok284 : TIok Tryz.prog 284 ⟨.other, 1, 8, [.nilptr], false⟩ := TIok.of (.pointer none) Tryz.underlying284 (rfl) (by kernel_rfl) rfl rfl rfl
theorem eq54 : EqTells Tryz.prog 54 [some .i64, some .i64] := eqTells_of (F := _) Tryz.underlying54 (by kernel_rfl) (by kernel_rfl) (fun i f h => by
  rcases i with _ | i
  · cases h; exact ⟨by decide, rfl, _, rfl, Tryz.underlying3⟩
  rcases i with _ | i
  · cases h; exact ⟨by decide, rfl, _, rfl, Tryz.underlying3⟩
  simp at h) rfl
theorem eq55 : EqTells Tryz.prog 55 [some .i64, some .i64] := eqTells_of (F := _) Tryz.underlying55 (by kernel_rfl) (by kernel_rfl) (fun i f h => by
  rcases i with _ | i
  · cases h; exact ⟨by decide, rfl, _, rfl, Tryz.underlying3⟩
  rcases i with _ | i
  · cases h; exact ⟨by decide, rfl, _, rfl, Tryz.underlying3⟩
  simp at h) rfl
theorem eq89 : EqTells Tryz.prog 89 [some .i64, some .i64, some .i64] := eqTells_of (F := _) Tryz.underlying89 (by kernel_rfl) (by kernel_rfl) (fun i f h => by
  rcases i with _ | i
  · cases h; exact ⟨by decide, rfl, _, rfl, Tryz.underlying3⟩
  rcases i with _ | i
  · cases h; exact ⟨by decide, rfl, _, rfl, Tryz.underlying3⟩
  rcases i with _ | i
  · cases h; exact ⟨by decide, rfl, _, rfl, Tryz.underlying3⟩
  simp at h) rfl
theorem eq90 : EqTells Tryz.prog 90 [some .i64, some .i64, some .i64] := eqTells_of (F := _) Tryz.underlying90 (by kernel_rfl) (by kernel_rfl) (fun i f h => by
  rcases i with _ | i
  · cases h; exact ⟨by decide, rfl, _, rfl, Tryz.underlying3⟩
  rcases i with _ | i
  · cases h; exact ⟨by decide, rfl, _, rfl, Tryz.underlying3⟩
  rcases i with _ | i
  · cases h; exact ⟨by decide, rfl, _, rfl, Tryz.underlying3⟩
  simp at h) rfl
theorem eq112 : EqTells Tryz.prog 112 [some .i64, some .i64, some .i64] := eqTells_of (F := _) Tryz.underlying112 (by kernel_rfl) (by kernel_rfl) (fun i f h => by
  rcases i with _ | i
  · cases h; exact ⟨by decide, rfl, _, rfl, Tryz.underlying3⟩
  rcases i with _ | i
  · cases h; exact ⟨by decide, rfl, _, rfl, Tryz.underlying3⟩
  rcases i with _ | i
  · cases h; exact ⟨by decide, rfl, _, rfl, Tryz.underlying36⟩
  simp at h) rfl
theorem eq113 : EqTells Tryz.prog 113 [some .i64, some .i64, some .i64] := eqTells_of (F := _) Tryz.underlying113 (by kernel_rfl) (by kernel_rfl) (fun i f h => by
  rcases i with _ | i
  · cases h; exact ⟨by decide, rfl, _, rfl, Tryz.underlying3⟩
  rcases i with _ | i
  · cases h; exact ⟨by decide, rfl, _, rfl, Tryz.underlying3⟩
  rcases i with _ | i
  · cases h; exact ⟨by decide, rfl, _, rfl, Tryz.underlying36⟩
  simp at h) rfl
theorem eq125 : EqTells Tryz.prog 125 [some .i64, some .i64, some .i64] := eqTells_of (F := _) Tryz.underlying125 (by kernel_rfl) (by kernel_rfl) (fun i f h => by
  rcases i with _ | i
  · cases h; exact ⟨by decide, rfl, _, rfl, Tryz.underlying3⟩
  rcases i with _ | i
  · cases h; exact ⟨by decide, rfl, _, rfl, Tryz.underlying3⟩
  rcases i with _ | i
  · cases h; exact ⟨by decide, rfl, _, rfl, Tryz.underlying3⟩
  simp at h) rfl
theorem eq126 : EqTells Tryz.prog 126 [some .i64, some .i64, some .i64] := eqTells_of (F := _) Tryz.underlying126 (by kernel_rfl) (by kernel_rfl) (fun i f h => by
  rcases i with _ | i
  · cases h; exact ⟨by decide, rfl, _, rfl, Tryz.underlying3⟩
  rcases i with _ | i
  · cases h; exact ⟨by decide, rfl, _, rfl, Tryz.underlying3⟩
  rcases i with _ | i
  · cases h; exact ⟨by decide, rfl, _, rfl, Tryz.underlying3⟩
  simp at h) rfl
theorem eq163 : EqTells Tryz.prog 163 [some .i64, some .i64, some .i64, some .i64, some .i64, none] := eqTells_of (F := _) Tryz.underlying163 (by kernel_rfl) (by kernel_rfl) (fun i f h => by
  rcases i with _ | i
  · cases h; exact ⟨by decide, rfl, _, rfl, Tryz.underlying3⟩
  rcases i with _ | i
  · cases h; exact ⟨by decide, rfl, _, rfl, Tryz.underlying3⟩
  rcases i with _ | i
  · cases h; exact ⟨by decide, rfl, _, rfl, Tryz.underlying3⟩
  rcases i with _ | i
  · cases h; exact ⟨by decide, rfl, _, rfl, Tryz.underlying3⟩
  rcases i with _ | i
  · cases h; exact ⟨by decide, rfl, _, rfl, Tryz.underlying3⟩
  rcases i with _ | i
  · cases h; exact ⟨by decide, rfl, _, rfl, Tryz.underlying4⟩
  simp at h) rfl
theorem eq164 : EqTells Tryz.prog 164 [some .i64, some .i64, some .i64, some .i64, some .i64, none] := eqTells_of (F := _) Tryz.underlying164 (by kernel_rfl) (by kernel_rfl) (fun i f h => by
  rcases i with _ | i
  · cases h; exact ⟨by decide, rfl, _, rfl, Tryz.underlying3⟩
  rcases i with _ | i
  · cases h; exact ⟨by decide, rfl, _, rfl, Tryz.underlying3⟩
  rcases i with _ | i
  · cases h; exact ⟨by decide, rfl, _, rfl, Tryz.underlying3⟩
  rcases i with _ | i
  · cases h; exact ⟨by decide, rfl, _, rfl, Tryz.underlying3⟩
  rcases i with _ | i
  · cases h; exact ⟨by decide, rfl, _, rfl, Tryz.underlying3⟩
  rcases i with _ | i
  · cases h; exact ⟨by decide, rfl, _, rfl, Tryz.underlying4⟩
  simp at h) rfl
theorem eq178 : EqTells Tryz.prog 178 [some .i64, some .i64, some .i64] := eqTells_of (F := _) Tryz.underlying178 (by kernel_rfl) (by kernel_rfl) (fun i f h => by
  rcases i with _ | i
  · cases h; exact ⟨by decide, rfl, _, rfl, Tryz.underlying3⟩
  rcases i with _ | i
  · cases h; exact ⟨by decide, rfl, _, rfl, Tryz.underlying3⟩
  rcases i with _ | i
  · cases h; exact ⟨by decide, rfl, _, rfl, Tryz.underlying3⟩
  simp at h) rfl
theorem eq179 : EqTells Tryz.prog 179 [some .i64, some .i64, some .i64] := eqTells_of (F := _) Tryz.underlying179 (by kernel_rfl) (by kernel_rfl) (fun i f h => by
  rcases i with _ | i
  · cases h; exact ⟨by decide, rfl, _, rfl, Tryz.underlying3⟩
  rcases i with _ | i
  · cases h; exact ⟨by decide, rfl, _, rfl, Tryz.underlying3⟩
  rcases i with _ | i
  · cases h; exact ⟨by decide, rfl, _, rfl, Tryz.underlying3⟩
  simp at h) rfl
theorem eq199 : EqTells Tryz.prog 199 [some .i64, some .i64, some .i64] := eqTells_of (F := _) Tryz.underlying199 (by kernel_rfl) (by kernel_rfl) (fun i f h => by
  rcases i with _ | i
  · cases h; exact ⟨by decide, rfl, _, rfl, Tryz.underlying3⟩
  rcases i with _ | i
  · cases h; exact ⟨by decide, rfl, _, rfl, Tryz.underlying3⟩
  rcases i with _ | i
  · cases h; exact ⟨by decide, rfl, _, rfl, Tryz.underlying3⟩
  simp at h) rfl
theorem eq200 : EqTells Tryz.prog 200 [some .i64, some .i64, some .i64] := eqTells_of (F := _) Tryz.underlying200 (by kernel_rfl) (by kernel_rfl) (fun i f h => by
  rcases i with _ | i
  · cases h; exact ⟨by decide, rfl, _, rfl, Tryz.underlying3⟩
  rcases i with _ | i
  · cases h; exact ⟨by decide, rfl, _, rfl, Tryz.underlying3⟩
  rcases i with _ | i
  · cases h; exact ⟨by decide, rfl, _, rfl, Tryz.underlying3⟩
  simp at h) rfl
theorem tab : TabOk Tryz.prog T := by
  refine TabOk.of (by kernel_rfl) (assoc_all (l := tl) (Q := fun t i => TIok Tryz.prog t i) ?_) (assoc_all (l := tl) (Q := fun t i => i.eq = true → ∀ ks, i.kds = some ks → EqTells Tryz.prog t ks) ?_) (fun t i fs h hk => assoc_all (l := tl) (Q := fun _ i => ∀ fs, i.k = .struct fs → fs.all (fun x => (T x.2).isSome) = true) ?_ t i h fs hk)
  · simp only [tl, List.forall_mem_cons, List.not_mem_nil, false_implies, implies_true, and_true]
    exact ⟨ok1, ok2, ok3, ok4, ok5, ok9, ok12, ok21, ok22, ok23, ok24, ok25, ok26, ok27, ok28, ok29, ok30, ok31, ok32, ok33, ok34, ok35, ok36, ok38, ok39, ok41, ok42, ok43, ok44, ok45, ok46, ok47, ok48, ok49, ok50, ok51, ok53, ok54, ok55, ok56, ok57, ok58, ok59, ok60, ok62, ok63, ok64, ok65, ok66, ok67, ok68, ok69, ok70, ok71, ok73, ok74, ok75, ok77, ok78, ok79, ok80, ok81, ok83, ok84, ok86, ok87, ok88, ok89, ok90, ok91, ok92, ok93, ok94, ok95, ok96, ok97, ok98, ok99, ok101, ok102, ok103, ok105, ok106, ok107, ok108, ok109, ok110, ok111, ok112, ok113, ok114, ok115, ok116, ok117, ok118, ok119, ok120, ok122, ok123, ok124, ok125, ok126, ok127, ok129, ok131, ok132, ok133, ok134, ok135, ok136, ok137, ok138, ok139, ok140, ok141, ok142, ok143, ok144, ok146, ok147, ok148, ok149, ok151, ok152, ok153, ok154, ok156, ok157, ok158, ok159, ok160, ok161, ok162, ok163, ok164, ok165, ok166, ok168, ok169, ok170, ok171, ok172, ok173, ok174, ok175, ok176, ok177, ok178, ok179, ok180, ok181, ok182, ok183, ok185, ok186, ok187, ok188, ok189, ok190, ok191, ok192, ok193, ok194, ok195, ok196, ok197, ok198, ok199, ok200, ok201, ok202, ok203, ok205, ok206, ok207, ok208, ok209, ok210, ok211, ok212, ok213, ok214, ok215, ok216, ok217, ok218, ok219, ok220, ok221, ok222, ok223, ok224, ok226, ok228, ok229, ok230, ok231, ok232, ok233, ok234, ok236, ok237, ok238, ok239, ok240, ok241, ok242, ok244, ok246, ok247, ok248, ok249, ok250, ok251, ok253, ok254, ok255, ok256, ok257, ok258, ok259, ok260, ok261, ok262, ok263, ok264, ok265, ok266, ok267, ok268, ok269, ok270, ok271, ok272, ok273, ok274, ok280, ok284⟩
  · simp only [tl, List.forall_mem_cons, List.not_mem_nil, false_implies, implies_true, and_true]
    exact ⟨(fun h => by cases h), (fun h => by cases h), (fun h => by cases h), (fun h => by cases h), (fun h => by cases h), (fun h => by cases h), (fun h => by cases h), (fun h => by cases h), (fun h => by cases h), (fun h => by cases h), (fun h => by cases h), (fun h => by cases h), (fun h => by cases h), (fun h => by cases h), (fun h => by cases h), (fun h => by cases h), (fun h => by cases h), (fun h => by cases h), (fun h => by cases h), (fun h => by cases h), (fun h => by cases h), (fun h => by cases h), (fun h => by cases h), (fun h => by cases h), (fun h => by cases h), (fun h => by cases h), (fun h => by cases h), (fun h => by cases h), (fun h => by cases h), (fun h => by cases h), (fun h => by cases h), (fun h => by cases h), (fun h => by cases h), (fun h => by cases h), (fun h => by cases h), (fun h => by cases h), (fun h => by cases h), (fun _ ks h => by cases h; exact eq54), (fun _ ks h => by cases h; exact eq55), (fun h => by cases h), (fun h => by cases h), (fun h => by cases h), (fun h => by cases h), (fun h => by cases h), (fun h => by cases h), (fun h => by cases h), (fun h => by cases h), (fun h => by cases h), (fun h => by cases h), (fun h => by cases h), (fun h => by cases h), (fun h => by cases h), (fun h => by cases h), (fun h => by cases h), (fun h => by cases h), (fun h => by cases h), (fun h => by cases h), (fun h => by cases h), (fun h => by cases h), (fun h => by cases h), (fun h => by cases h), (fun h => by cases h), (fun h => by cases h), (fun h => by cases h), (fun h => by cases h), (fun h => by cases h), (fun h => by cases h), (fun _ ks h => by cases h; exact eq89), (fun _ ks h => by cases h; exact eq90), (fun h => by cases h), (fun h => by cases h), (fun h => by cases h), (fun h => by cases h), (fun h => by cases h), (fun h => by cases h), (fun h => by cases h), (fun h => by cases h), (fun h => by cases h), (fun h => by cases h), (fun h => by cases h), (fun h => by cases h), (fun h => by cases h), (fun h => by cases h), (fun h => by cases h), (fun h => by cases h), (fun h => by cases h), (fun h => by cases h), (fun h => by cases h), (fun _ ks h => by cases h; exact eq112), (fun _ ks h => by cases h; exact eq113), (fun h => by cases h), (fun h => by cases h), (fun h => by cases h), (fun h => by cases h), (fun h => by cases h), (fun h => by cases h), (fun h => by cases h), (fun h => by cases h), (fun h => by cases h), (fun h => by cases h), (fun _ ks h => by cases h; exact eq125), (fun _ ks h => by cases h; exact eq126), (fun h => by cases h), (fun h => by cases h), (fun h => by cases h), (fun h => by cases h), (fun h => by cases h), (fun h => by cases h), (fun h => by cases h), (fun h => by cases h), (fun h => by cases h), (fun h => by cases h), (fun h => by cases h), (fun h => by cases h), (fun h => by cases h), (fun h => by cases h), (fun h => by cases h), (fun h => by cases h), (fun h => by cases h), (fun h => by cases h), (fun h => by cases h), (fun h => by cases h), (fun h => by cases h), (fun h => by cases h), (fun h => by cases h), (fun h => by cases h), (fun h => by cases h), (fun h => by cases h), (fun h => by cases h), (fun h => by cases h), (fun h => by cases h), (fun h => by cases h), (fun h => by cases h), (fun _ ks h => by cases h; exact eq163), (fun _ ks h => by cases h; exact eq164), (fun h => by cases h), (fun h => by cases h), (fun h => by cases h), (fun h => by cases h), (fun h => by cases h), (fun h => by cases h), (fun h => by cases h), (fun h => by cases h), (fun h => by cases h), (fun h => by cases h), (fun h => by cases h), (fun h => by cases h), (fun _ ks h => by cases h; exact eq178), (fun _ ks h => by cases h; exact eq179), (fun h => by cases h), (fun h => by cases h), (fun h => by cases h), (fun h => by cases h), (fun h => by cases h), (fun h => by cases h), (fun h => by cases h), (fun h => by cases h), (fun h => by cases h), (fun h => by cases h), (fun h => by cases h), (fun h => by cases h), (fun h => by cases h), (fun h => by cases h), (fun h => by cases h), (fun h => by cases h), (fun h => by cases h), (fun h => by cases h), (fun _ ks h => by cases h; exact eq199), (fun _ ks h => by cases h; exact eq200), (fun h => by cases h), (fun h => by cases h), (fun h => by cases h), (fun h => by cases h), (fun h => by cases h), (fun h => by cases h), (fun h => by cases h), (fun h => by cases h), (fun h => by cases h), (fun h => by cases h), (fun h => by cases h), (fun h => by cases h), (fun h => by cases h), (fun h => by cases h), (fun h => by cases h), (fun h => by cases h), (fun h => by cases h), (fun h => by cases h), (fun h => by cases h), (fun h => by cases h), (fun h => by cases h), (fun h => by cases h), (fun h => by cases h), (fun h => by cases h), (fun h => by cases h), (fun h => by cases h), (fun h => by cases h), (fun h => by cases h), (fun h => by cases h), (fun h => by cases h), (fun h => by cases h), (fun h => by cases h), (fun h => by cases h), (fun h => by cases h), (fun h => by cases h), (fun h => by cases h), (fun h => by cases h), (fun h => by cases h), (fun h => by cases h), (fun h => by cases h), (fun h => by cases h), (fun h => by cases h), (fun h => by cases h), (fun h => by cases h), (fun h => by cases h), (fun h => by cases h), (fun h => by cases h), (fun h => by cases h), (fun h => by cases h), (fun h => by cases h), (fun h => by cases h), (fun h => by cases h), (fun h => by cases h), (fun h => by cases h), (fun h => by cases h), (fun h => by cases h), (fun h => by cases h), (fun h => by cases h), (fun h => by cases h), (fun h => by cases h), (fun h => by cases h), (fun h => by cases h), (fun h => by cases h), (fun h => by cases h), (fun h => by cases h), (fun h => by cases h), (fun h => by cases h), (fun h => by cases h), (fun h => by cases h)⟩
  · simp only [tl, List.forall_mem_cons, List.not_mem_nil, false_implies, implies_true, and_true]
    exact ⟨(fun fs h => by cases h), (fun fs h => by cases h), (fun fs h => by cases h), (fun fs h => by cases h), (fun fs h => by cases h), (fun fs h => by cases h), (fun fs h => by cases h), (fun fs h => by cases h), (fun fs h => by cases h), (fun fs h => by cases h), (fun fs h => by cases h; rfl), (fun fs h => by cases h; rfl), (fun fs h => by cases h), (fun fs h => by cases h), (fun fs h => by cases h), (fun fs h => by cases h; rfl), (fun fs h => by cases h; rfl), (fun fs h => by cases h), (fun fs h => by cases h), (fun fs h => by cases h), (fun fs h => by cases h; rfl), (fun fs h => by cases h; rfl), (fun fs h => by cases h), (fun fs h => by cases h), (fun fs h => by cases h), (fun fs h => by cases h), (fun fs h => by cases h), (fun fs h => by cases h), (fun fs h => by cases h), (fun fs h => by cases h), (fun fs h => by cases h), (fun fs h => by cases h), (fun fs h => by cases h), (fun fs h => by cases h), (fun fs h => by cases h; rfl), (fun fs h => by cases h; rfl), (fun fs h => by cases h), (fun fs h => by cases h; rfl), (fun fs h => by cases h; rfl), (fun fs h => by cases h; rfl), (fun fs h => by cases h; rfl), (fun fs h => by cases h), (fun fs h => by cases h; rfl), (fun fs h => by cases h), (fun fs h => by cases h), (fun fs h => by cases h), (fun fs h => by cases h), (fun fs h => by cases h), (fun fs h => by cases h; rfl), (fun fs h => by cases h; rfl), (fun fs h => by cases h; rfl), (fun fs h => by cases h; rfl), (fun fs h => by cases h), (fun fs h => by cases h), (fun fs h => by cases h), (fun fs h => by cases h), (fun fs h => by cases h), (fun fs h => by cases h), (fun fs h => by cases h), (fun fs h => by cases h), (fun fs h => by cases h), (fun fs h => by cases h), (fun fs h => by cases h), (fun fs h => by cases h), (fun fs h => by cases h), (fun fs h => by cases h), (fun fs h => by cases h), (fun fs h => by cases h; rfl), (fun fs h => by cases h; rfl), (fun fs h => by cases h), (fun fs h => by cases h; rfl), (fun fs h => by cases h; rfl), (fun fs h => by cases h; rfl), (fun fs h => by cases h; rfl), (fun fs h => by cases h), (fun fs h => by cases h), (fun fs h => by cases h), (fun fs h => by cases h), (fun fs h => by cases h), (fun fs h => by cases h), (fun fs h => by cases h), (fun fs h => by cases h), (fun fs h => by cases h), (fun fs h => by cases h; rfl), (fun fs h => by cases h; rfl), (fun fs h => by cases h), (fun fs h => by cases h; rfl), (fun fs h => by cases h; rfl), (fun fs h => by cases h; rfl), (fun fs h => by cases h; rfl), (fun fs h => by cases h), (fun fs h => by cases h), (fun fs h => by cases h), (fun fs h => by cases h), (fun fs h => by cases h), (fun fs h => by cases h), (fun fs h => by cases h), (fun fs h => by cases h), (fun fs h => by cases h), (fun fs h => by cases h), (fun fs h => by cases h; rfl), (fun fs h => by cases h; rfl), (fun fs h => by cases h), (fun fs h => by cases h), (fun fs h => by cases h), (fun fs h => by cases h), (fun fs h => by cases h), (fun fs h => by cases h), (fun fs h => by cases h), (fun fs h => by cases h), (fun fs h => by cases h), (fun fs h => by cases h), (fun fs h => by cases h), (fun fs h => by cases h), (fun fs h => by cases h), (fun fs h => by cases h), (fun fs h => by cases h), (fun fs h => by cases h), (fun fs h => by cases h), (fun fs h => by cases h), (fun fs h => by cases h), (fun fs h => by cases h), (fun fs h => by cases h), (fun fs h => by cases h), (fun fs h => by cases h), (fun fs h => by cases h), (fun fs h => by cases h), (fun fs h => by cases h), (fun fs h => by cases h; rfl), (fun fs h => by cases h; rfl), (fun fs h => by cases h; rfl), (fun fs h => by cases h; rfl), (fun fs h => by cases h), (fun fs h => by cases h; rfl), (fun fs h => by cases h; rfl), (fun fs h => by cases h), (fun fs h => by cases h), (fun fs h => by cases h), (fun fs h => by cases h), (fun fs h => by cases h), (fun fs h => by cases h), (fun fs h => by cases h), (fun fs h => by cases h), (fun fs h => by cases h), (fun fs h => by cases h), (fun fs h => by cases h), (fun fs h => by cases h), (fun fs h => by cases h; rfl), (fun fs h => by cases h; rfl), (fun fs h => by cases h), (fun fs h => by cases h), (fun fs h => by cases h), (fun fs h => by cases h), (fun fs h => by cases h), (fun fs h => by cases h), (fun fs h => by cases h), (fun fs h => by cases h; rfl), (fun fs h => by cases h; rfl), (fun fs h => by cases h), (fun fs h => by cases h), (fun fs h => by cases h), (fun fs h => by cases h), (fun fs h => by cases h), (fun fs h => by cases h), (fun fs h => by cases h), (fun fs h => by cases h), (fun fs h => by cases h), (fun fs h => by cases h; rfl), (fun fs h => by cases h; rfl), (fun fs h => by cases h), (fun fs h => by cases h), (fun fs h => by cases h), (fun fs h => by cases h), (fun fs h => by cases h), (fun fs h => by cases h), (fun fs h => by cases h), (fun fs h => by cases h), (fun fs h => by cases h), (fun fs h => by cases h), (fun fs h => by cases h; rfl), (fun fs h => by cases h; rfl), (fun fs h => by cases h), (fun fs h => by cases h), (fun fs h => by cases h), (fun fs h => by cases h), (fun fs h => by cases h), (fun fs h => by cases h), (fun fs h => by cases h), (fun fs h => by cases h), (fun fs h => by cases h), (fun fs h => by cases h), (fun fs h => by cases h), (fun fs h => by cases h), (fun fs h => by cases h), (fun fs h => by cases h), (fun fs h => by cases h), (fun fs h => by cases h), (fun fs h => by cases h), (fun fs h => by cases h), (fun fs h => by cases h), (fun fs h => by cases h), (fun fs h => by cases h), (fun fs h => by cases h; rfl), (fun fs h => by cases h; rfl), (fun fs h => by cases h), (fun fs h => by cases h), (fun fs h => by cases h), (fun fs h => by cases h), (fun fs h => by cases h), (fun fs h => by cases h), (fun fs h => by cases h), (fun fs h => by cases h), (fun fs h => by cases h), (fun fs h => by cases h), (fun fs h => by cases h), (fun fs h => by cases h), (fun fs h => by cases h), (fun fs h => by cases h), (fun fs h => by cases h), (fun fs h => by cases h), (fun fs h => by cases h), (fun fs h => by cases h), (fun fs h => by cases h), (fun fs h => by cases h), (fun fs h => by cases h), (fun fs h => by cases h), (fun fs h => by cases h), (fun fs h => by cases h), (fun fs h => by cases h), (fun fs h => by cases h), (fun fs h => by cases h), (fun fs h => by cases h), (fun fs h => by cases h), (fun fs h => by cases h), (fun fs h => by cases h), (fun fs h => by cases h), (fun fs h => by cases h), (fun fs h => by cases h)⟩
end Go.Proofs.YtldlcdnhdedoeaaGreat
