/- Part 10 of what follows is proved here: the layer over the walk. -/
import Derived.Test.YtakiggekallckaaV8
import Derived.Test.YtakiggekallckaaProg
import Derived.Test.YtakiggekallckaaV1
import Derived.KernelRfl
set_option linter.unusedVariables false
set_option linter.unusedSimpArgs false
set_option maxRecDepth 100000
/- The seat's types, as the V layer wants them; each line is checked against the program by the kernel. -/
namespace Go.Proofs.Ytakiggekallckaa
open Go Go.VC

def tl : List (Nat × TI) := [(1, ⟨.other, 1, 8, [.d .nilfn], false⟩),
  (2, ⟨.int .i64, 1, 8, [.d (.int .i64 0)], false⟩),
  (3, ⟨.int .i64, 1, 8, [.d (.int .i64 0)], false⟩),
  (4, ⟨.bool, 1, 1, [.d (.bool false)], false⟩),
  (5, ⟨.int .u8, 1, 1, [.d (.int .u8 0)], false⟩),
  (9, ⟨.str, 1, 16, [.d (.str ⟨#[]⟩)], false⟩),
  (12, ⟨.int .u64, 1, 8, [.d (.int .u64 0)], false⟩),
  (21, ⟨.int .i32, 1, 4, [.d (.int .i32 0)], false⟩),
  (22, ⟨.slice 47, 1, 24, [.nil], false⟩),
  (23, ⟨.slice 4, 1, 24, [.nil], false⟩),
  (24, ⟨.slice 3, 1, 24, [.nil], false⟩),
  (25, ⟨.slice 95, 1, 24, [.nil], false⟩),
  (26, ⟨.slice 57, 1, 24, [.nil], false⟩),
  (27, ⟨.struct [(0, 22), (1, 23), (2, 24), (3, 25), (4, 26)], 5, 120, [.nil, .nil, .nil, .nil, .nil], false⟩),
  (28, ⟨.struct [(0, 22), (1, 23), (2, 24), (3, 25), (4, 26)], 5, 120, [.nil, .nil, .nil, .nil, .nil], false⟩),
  (29, ⟨.other, 1, 8, [.d .nilfn], false⟩),
  (30, ⟨.other, 1, 8, [.d .nilfn], false⟩),
  (31, ⟨.int .i64, 1, 8, [.d (.int .i64 0)], false⟩),
  (33, ⟨.other, 1, 8, [.d .nilfn], false⟩),
  (34, ⟨.struct [(0, 22), (1, 23), (2, 24), (3, 25), (4, 26)], 5, 120, [.nil, .nil, .nil, .nil, .nil], false⟩),
  (36, ⟨.other, 1, 8, [.d .nilfn], false⟩),
  (37, ⟨.other, 1, 8, [.d .nilfn], false⟩),
  (38, ⟨.other, 1, 8, [.d .nilfn], false⟩),
  (39, ⟨.other, 1, 8, [.d .nilfn], false⟩),
  (40, ⟨.other, 1, 8, [.d .nilfn], false⟩),
  (42, ⟨.other, 1, 8, [.d .nilfn], false⟩),
  (43, ⟨.other, 1, 8, [.d .nilfn], false⟩),
  (44, ⟨.other, 1, 8, [.d .nilfn], false⟩),
  (45, ⟨.slice 107, 1, 24, [.nil], false⟩),
  (46, ⟨.struct [(0, 3), (1, 3), (2, 3), (3, 45)], 4, 48, [.d (.int .i64 0), .d (.int .i64 0), .d (.int .i64 0), .nil], false⟩),
  (47, ⟨.struct [(0, 3), (1, 3), (2, 3), (3, 45)], 4, 48, [.d (.int .i64 0), .d (.int .i64 0), .d (.int .i64 0), .nil], false⟩),
  (48, ⟨.other, 1, 8, [.d .nilfn], false⟩),
  (49, ⟨.other, 1, 8, [.d .nilfn], false⟩),
  (50, ⟨.other, 1, 8, [.d .nilfn], false⟩),
  (51, ⟨.other, 1, 8, [.d .nilfn], false⟩),
  (52, ⟨.other, 1, 8, [.d .nilfn], false⟩),
  (53, ⟨.other, 1, 8, [.d .nilfn], false⟩),
  (54, ⟨.slice 109, 1, 24, [.nil], false⟩),
  (55, ⟨.other, 1, 8, [.d .nilfn], false⟩),
  (56, ⟨.struct [(0, 3), (1, 3), (2, 3)], 3, 24, [.d (.int .i64 0), .d (.int .i64 0), .d (.int .i64 0)], true⟩),
  (57, ⟨.struct [(0, 3), (1, 3), (2, 3)], 3, 24, [.d (.int .i64 0), .d (.int .i64 0), .d (.int .i64 0)], true⟩),
  (58, ⟨.other, 1, 8, [.d .nilfn], false⟩),
  (59, ⟨.struct [(0, 3), (1, 3)], 2, 16, [.d (.int .i64 0), .d (.int .i64 0)], true⟩),
  (60, ⟨.struct [(0, 3), (1, 3)], 2, 16, [.d (.int .i64 0), .d (.int .i64 0)], true⟩),
  (61, ⟨.struct [(0, 60), (2, 22)], 3, 40, [.d (.int .i64 0), .d (.int .i64 0), .nil], false⟩),
  (62, ⟨.struct [(0, 60), (2, 22)], 3, 40, [.d (.int .i64 0), .d (.int .i64 0), .nil], false⟩),
  (63, ⟨.other, 1, 8, [.d .nilfn], false⟩),
  (64, ⟨.other, 1, 8, [.d .nilfn], false⟩),
  (65, ⟨.other, 1, 8, [.d .nilfn], false⟩),
  (66, ⟨.other, 1, 8, [.d .nilfn], false⟩),
  (67, ⟨.other, 1, 8, [.d .nilfn], false⟩),
  (68, ⟨.other, 1, 8, [.d .nilfn], false⟩),
  (69, ⟨.other, 1, 8, [.d .nilfn], false⟩),
  (70, ⟨.other, 1, 8, [.d .nilfn], false⟩),
  (71, ⟨.other, 1, 8, [.d .nilfn], false⟩),
  (72, ⟨.other, 1, 8, [.d .nilfn], false⟩),
  (73, ⟨.other, 1, 8, [.d .nilfn], false⟩),
  (74, ⟨.other, 1, 8, [.d .nilfn], false⟩),
  (76, ⟨.other, 1, 8, [.d .nilfn], false⟩),
  (77, ⟨.other, 1, 8, [.d .nilfn], false⟩),
  (78, ⟨.slice 80, 1, 24, [.nil], false⟩),
  (79, ⟨.struct [(0, 3), (1, 3), (2, 3), (3, 47)], 7, 72, [.d (.int .i64 0), .d (.int .i64 0), .d (.int .i64 0), .d (.int .i64 0), .d (.int .i64 0), .d (.int .i64 0), .nil], false⟩),
  (80, ⟨.struct [(0, 3), (1, 3), (2, 3), (3, 47)], 7, 72, [.d (.int .i64 0), .d (.int .i64 0), .d (.int .i64 0), .d (.int .i64 0), .d (.int .i64 0), .d (.int .i64 0), .nil], false⟩),
  (81, ⟨.other, 1, 8, [.d .nilfn], false⟩),
  (82, ⟨.other, 1, 8, [.d .nilfn], false⟩),
  (83, ⟨.other, 1, 8, [.d .nilfn], false⟩),
  (84, ⟨.other, 1, 8, [.nilptr], false⟩),
  (85, ⟨.other, 1, 8, [.d .nilfn], false⟩),
  (87, ⟨.other, 1, 8, [.d .nilfn], false⟩),
  (88, ⟨.other, 1, 8, [.d .nilfn], false⟩),
  (89, ⟨.struct [(0, 26), (1, 3)], 2, 32, [.nil, .d (.int .i64 0)], false⟩),
  (90, ⟨.struct [(0, 26), (1, 3)], 2, 32, [.nil, .d (.int .i64 0)], false⟩),
  (91, ⟨.struct [(0, 90), (2, 28)], 7, 152, [.nil, .d (.int .i64 0), .nil, .nil, .nil, .nil, .nil], false⟩),
  (92, ⟨.struct [(0, 90), (2, 28)], 7, 152, [.nil, .d (.int .i64 0), .nil, .nil, .nil, .nil, .nil], false⟩),
  (93, ⟨.other, 1, 8, [.d .nilfn], false⟩),
  (94, ⟨.struct [(0, 3), (1, 3), (2, 3), (3, 3), (4, 3), (5, 4)], 6, 48, [.d (.int .i64 0), .d (.int .i64 0), .d (.int .i64 0), .d (.int .i64 0), .d (.int .i64 0), .d (.bool false)], true⟩),
  (95, ⟨.struct [(0, 3), (1, 3), (2, 3), (3, 3), (4, 3), (5, 4)], 6, 48, [.d (.int .i64 0), .d (.int .i64 0), .d (.int .i64 0), .d (.int .i64 0), .d (.int .i64 0), .d (.bool false)], true⟩),
  (96, ⟨.other, 1, 8, [.d .nilfn], false⟩),
  (97, ⟨.other, 1, 8, [.d .nilfn], false⟩),
  (98, ⟨.other, 1, 8, [.d .nilfn], false⟩),
  (99, ⟨.other, 1, 8, [.d .nilfn], false⟩),
  (100, ⟨.other, 1, 8, [.d .nilfn], false⟩),
  (101, ⟨.other, 1, 8, [.d .nilfn], false⟩),
  (102, ⟨.other, 1, 8, [.d .nilfn], false⟩),
  (103, ⟨.other, 1, 8, [.d .nilfn], false⟩),
  (105, ⟨.other, 1, 8, [.d .nilfn], false⟩),
  (106, ⟨.struct [(0, 3), (1, 3), (2, 3)], 3, 24, [.d (.int .i64 0), .d (.int .i64 0), .d (.int .i64 0)], true⟩),
  (107, ⟨.struct [(0, 3), (1, 3), (2, 3)], 3, 24, [.d (.int .i64 0), .d (.int .i64 0), .d (.int .i64 0)], true⟩),
  (108, ⟨.struct [(0, 3), (1, 3), (2, 3)], 3, 24, [.d (.int .i64 0), .d (.int .i64 0), .d (.int .i64 0)], true⟩),
  (109, ⟨.struct [(0, 3), (1, 3), (2, 3)], 3, 24, [.d (.int .i64 0), .d (.int .i64 0), .d (.int .i64 0)], true⟩),
  (111, ⟨.other, 1, 8, [.d .nilfn], false⟩),
  (112, ⟨.other, 1, 8, [.d .nilfn], false⟩),
  (113, ⟨.other, 1, 8, [.d .nilfn], false⟩),
  (114, ⟨.other, 1, 8, [.d .nilfn], false⟩),
  (115, ⟨.other, 1, 8, [.d .nilfn], false⟩),
  (116, ⟨.other, 1, 8, [.d .nilfn], false⟩),
  (117, ⟨.other, 1, 8, [.d .nilfn], false⟩),
  (118, ⟨.other, 1, 8, [.d .nilfn], false⟩),
  (119, ⟨.other, 1, 8, [.d .nilfn], false⟩),
  (121, ⟨.other, 1, 8, [.d .nilfn], false⟩),
  (123, ⟨.other, 1, 8, [.d .nilfn], false⟩),
  (124, ⟨.other, 1, 8, [.d .nilfn], false⟩),
  (125, ⟨.other, 1, 8, [.nilptr], false⟩),
  (126, ⟨.other, 1, 8, [.d .nilfn], false⟩),
  (127, ⟨.other, 1, 8, [.d .nilfn], false⟩),
  (128, ⟨.other, 1, 8, [.d .nilfn], false⟩),
  (129, ⟨.other, 1, 8, [.d .nilfn], false⟩),
  (130, ⟨.other, 1, 8, [.d .nilfn], false⟩),
  (131, ⟨.other, 1, 8, [.d .nilfn], false⟩),
  (132, ⟨.other, 1, 8, [.d .nilfn], false⟩),
  (133, ⟨.slice 113, 1, 24, [.nil], false⟩),
  (134, ⟨.other, 1, 8, [.d .nilfn], false⟩),
  (135, ⟨.other, 1, 8, [.d .nilfn], false⟩),
  (136, ⟨.other, 1, 8, [.d .nilfn], false⟩),
  (138, ⟨.other, 1, 8, [.d .nilfn], false⟩),
  (139, ⟨.other, 1, 8, [.d .nilfn], false⟩),
  (140, ⟨.other, 1, 8, [.d .nilfn], false⟩),
  (141, ⟨.other, 1, 8, [.d .nilfn], false⟩),
  (142, ⟨.other, 1, 8, [.d .nilfn], false⟩),
  (143, ⟨.other, 1, 8, [.d .nilfn], false⟩),
  (145, ⟨.other, 1, 8, [.d .nilfn], false⟩),
  (147, ⟨.other, 1, 8, [.d .nilfn], false⟩),
  (148, ⟨.other, 1, 8, [.d .nilfn], false⟩),
  (149, ⟨.other, 1, 8, [.d .nilfn], false⟩),
  (150, ⟨.other, 1, 8, [.d .nilfn], false⟩),
  (151, ⟨.other, 1, 8, [.d .nilfn], false⟩),
  (152, ⟨.other, 1, 8, [.d .nilfn], false⟩),
  (153, ⟨.other, 1, 8, [.d .nilfn], false⟩),
  (154, ⟨.other, 1, 8, [.d .nilfn], false⟩),
  (155, ⟨.other, 1, 8, [.d .nilfn], false⟩),
  (156, ⟨.other, 1, 8, [.d .nilfn], false⟩),
  (157, ⟨.other, 1, 8, [.d .nilfn], false⟩),
  (158, ⟨.other, 1, 8, [.d .nilfn], false⟩),
  (159, ⟨.other, 1, 8, [.d .nilfn], false⟩),
  (160, ⟨.other, 1, 8, [.d .nilfn], false⟩),
  (161, ⟨.other, 1, 8, [.d .nilfn], false⟩),
  (162, ⟨.other, 1, 8, [.d .nilfn], false⟩),
  (163, ⟨.other, 1, 8, [.d .nilfn], false⟩),
  (164, ⟨.other, 1, 8, [.d .nilfn], false⟩),
  (170, ⟨.int .u32, 1, 4, [.d (.int .u32 0)], false⟩),
  (174, ⟨.other, 1, 8, [.nilptr], false⟩)]
def T : TypeId → Option TI := fun t => assoc tl t
theorem T1 : T 1 = some ⟨.other, 1, 8, [.d .nilfn], false⟩ := rfl
theorem T2 : T 2 = some ⟨.int .i64, 1, 8, [.d (.int .i64 0)], false⟩ := rfl
theorem T3 : T 3 = some ⟨.int .i64, 1, 8, [.d (.int .i64 0)], false⟩ := rfl
theorem T4 : T 4 = some ⟨.bool, 1, 1, [.d (.bool false)], false⟩ := rfl
theorem T5 : T 5 = some ⟨.int .u8, 1, 1, [.d (.int .u8 0)], false⟩ := rfl
theorem T9 : T 9 = some ⟨.str, 1, 16, [.d (.str ⟨#[]⟩)], false⟩ := rfl
theorem T12 : T 12 = some ⟨.int .u64, 1, 8, [.d (.int .u64 0)], false⟩ := rfl
theorem T21 : T 21 = some ⟨.int .i32, 1, 4, [.d (.int .i32 0)], false⟩ := rfl
theorem T22 : T 22 = some ⟨.slice 47, 1, 24, [.nil], false⟩ := rfl
theorem T23 : T 23 = some ⟨.slice 4, 1, 24, [.nil], false⟩ := rfl
theorem T24 : T 24 = some ⟨.slice 3, 1, 24, [.nil], false⟩ := rfl
theorem T25 : T 25 = some ⟨.slice 95, 1, 24, [.nil], false⟩ := rfl
theorem T26 : T 26 = some ⟨.slice 57, 1, 24, [.nil], false⟩ := rfl
theorem T27 : T 27 = some ⟨.struct [(0, 22), (1, 23), (2, 24), (3, 25), (4, 26)], 5, 120, [.nil, .nil, .nil, .nil, .nil], false⟩ := rfl
theorem T28 : T 28 = some ⟨.struct [(0, 22), (1, 23), (2, 24), (3, 25), (4, 26)], 5, 120, [.nil, .nil, .nil, .nil, .nil], false⟩ := rfl
theorem T29 : T 29 = some ⟨.other, 1, 8, [.d .nilfn], false⟩ := rfl
theorem T30 : T 30 = some ⟨.other, 1, 8, [.d .nilfn], false⟩ := rfl
theorem T31 : T 31 = some ⟨.int .i64, 1, 8, [.d (.int .i64 0)], false⟩ := rfl
theorem T33 : T 33 = some ⟨.other, 1, 8, [.d .nilfn], false⟩ := rfl
theorem T34 : T 34 = some ⟨.struct [(0, 22), (1, 23), (2, 24), (3, 25), (4, 26)], 5, 120, [.nil, .nil, .nil, .nil, .nil], false⟩ := rfl
theorem T36 : T 36 = some ⟨.other, 1, 8, [.d .nilfn], false⟩ := rfl
theorem T37 : T 37 = some ⟨.other, 1, 8, [.d .nilfn], false⟩ := rfl
theorem T38 : T 38 = some ⟨.other, 1, 8, [.d .nilfn], false⟩ := rfl
theorem T39 : T 39 = some ⟨.other, 1, 8, [.d .nilfn], false⟩ := rfl
theorem T40 : T 40 = some ⟨.other, 1, 8, [.d .nilfn], false⟩ := rfl
theorem T42 : T 42 = some ⟨.other, 1, 8, [.d .nilfn], false⟩ := rfl
theorem T43 : T 43 = some ⟨.other, 1, 8, [.d .nilfn], false⟩ := rfl
theorem T44 : T 44 = some ⟨.other, 1, 8, [.d .nilfn], false⟩ := rfl
theorem T45 : T 45 = some ⟨.slice 107, 1, 24, [.nil], false⟩ := rfl
theorem T46 : T 46 = some ⟨.struct [(0, 3), (1, 3), (2, 3), (3, 45)], 4, 48, [.d (.int .i64 0), .d (.int .i64 0), .d (.int .i64 0), .nil], false⟩ := rfl
theorem T47 : T 47 = some ⟨.struct [(0, 3), (1, 3), (2, 3), (3, 45)], 4, 48, [.d (.int .i64 0), .d (.int .i64 0), .d (.int .i64 0), .nil], false⟩ := rfl
theorem T48 : T 48 = some ⟨.other, 1, 8, [.d .nilfn], false⟩ := rfl
theorem T49 : T 49 = some ⟨.other, 1, 8, [.d .nilfn], false⟩ := rfl
theorem T50 : T 50 = some ⟨.other, 1, 8, [.d .nilfn], false⟩ := rfl
theorem T51 : T 51 = some ⟨.other, 1, 8, [.d .nilfn], false⟩ := rfl
theorem T52 : T 52 = some ⟨.other, 1, 8, [.d .nilfn], false⟩ := rfl
theorem T53 : T 53 = some ⟨.other, 1, 8, [.d .nilfn], false⟩ := rfl
theorem T54 : T 54 = some ⟨.slice 109, 1, 24, [.nil], false⟩ := rfl
theorem T55 : T 55 = some ⟨.other, 1, 8, [.d .nilfn], false⟩ := rfl
theorem T56 : T 56 = some ⟨.struct [(0, 3), (1, 3), (2, 3)], 3, 24, [.d (.int .i64 0), .d (.int .i64 0), .d (.int .i64 0)], true⟩ := rfl
theorem T57 : T 57 = some ⟨.struct [(0, 3), (1, 3), (2, 3)], 3, 24, [.d (.int .i64 0), .d (.int .i64 0), .d (.int .i64 0)], true⟩ := rfl
theorem T58 : T 58 = some ⟨.other, 1, 8, [.d .nilfn], false⟩ := rfl
theorem T59 : T 59 = some ⟨.struct [(0, 3), (1, 3)], 2, 16, [.d (.int .i64 0), .d (.int .i64 0)], true⟩ := rfl
theorem T60 : T 60 = some ⟨.struct [(0, 3), (1, 3)], 2, 16, [.d (.int .i64 0), .d (.int .i64 0)], true⟩ := rfl
theorem T61 : T 61 = some ⟨.struct [(0, 60), (2, 22)], 3, 40, [.d (.int .i64 0), .d (.int .i64 0), .nil], false⟩ := rfl
theorem T62 : T 62 = some ⟨.struct [(0, 60), (2, 22)], 3, 40, [.d (.int .i64 0), .d (.int .i64 0), .nil], false⟩ := rfl
theorem T63 : T 63 = some ⟨.other, 1, 8, [.d .nilfn], false⟩ := rfl
theorem T64 : T 64 = some ⟨.other, 1, 8, [.d .nilfn], false⟩ := rfl
theorem T65 : T 65 = some ⟨.other, 1, 8, [.d .nilfn], false⟩ := rfl
theorem T66 : T 66 = some ⟨.other, 1, 8, [.d .nilfn], false⟩ := rfl
theorem T67 : T 67 = some ⟨.other, 1, 8, [.d .nilfn], false⟩ := rfl
theorem T68 : T 68 = some ⟨.other, 1, 8, [.d .nilfn], false⟩ := rfl
theorem T69 : T 69 = some ⟨.other, 1, 8, [.d .nilfn], false⟩ := rfl
theorem T70 : T 70 = some ⟨.other, 1, 8, [.d .nilfn], false⟩ := rfl
theorem T71 : T 71 = some ⟨.other, 1, 8, [.d .nilfn], false⟩ := rfl
theorem T72 : T 72 = some ⟨.other, 1, 8, [.d .nilfn], false⟩ := rfl
theorem T73 : T 73 = some ⟨.other, 1, 8, [.d .nilfn], false⟩ := rfl
theorem T74 : T 74 = some ⟨.other, 1, 8, [.d .nilfn], false⟩ := rfl
theorem T76 : T 76 = some ⟨.other, 1, 8, [.d .nilfn], false⟩ := rfl
theorem T77 : T 77 = some ⟨.other, 1, 8, [.d .nilfn], false⟩ := rfl
theorem T78 : T 78 = some ⟨.slice 80, 1, 24, [.nil], false⟩ := rfl
theorem T79 : T 79 = some ⟨.struct [(0, 3), (1, 3), (2, 3), (3, 47)], 7, 72, [.d (.int .i64 0), .d (.int .i64 0), .d (.int .i64 0), .d (.int .i64 0), .d (.int .i64 0), .d (.int .i64 0), .nil], false⟩ := rfl
theorem T80 : T 80 = some ⟨.struct [(0, 3), (1, 3), (2, 3), (3, 47)], 7, 72, [.d (.int .i64 0), .d (.int .i64 0), .d (.int .i64 0), .d (.int .i64 0), .d (.int .i64 0), .d (.int .i64 0), .nil], false⟩ := rfl
theorem T81 : T 81 = some ⟨.other, 1, 8, [.d .nilfn], false⟩ := rfl
theorem T82 : T 82 = some ⟨.other, 1, 8, [.d .nilfn], false⟩ := rfl
theorem T83 : T 83 = some ⟨.other, 1, 8, [.d .nilfn], false⟩ := rfl
theorem T84 : T 84 = some ⟨.other, 1, 8, [.nilptr], false⟩ := rfl
theorem T85 : T 85 = some ⟨.other, 1, 8, [.d .nilfn], false⟩ := rfl
theorem T87 : T 87 = some ⟨.other, 1, 8, [.d .nilfn], false⟩ := rfl
theorem T88 : T 88 = some ⟨.other, 1, 8, [.d .nilfn], false⟩ := rfl
theorem T89 : T 89 = some ⟨.struct [(0, 26), (1, 3)], 2, 32, [.nil, .d (.int .i64 0)], false⟩ := rfl
theorem T90 : T 90 = some ⟨.struct [(0, 26), (1, 3)], 2, 32, [.nil, .d (.int .i64 0)], false⟩ := rfl
theorem T91 : T 91 = some ⟨.struct [(0, 90), (2, 28)], 7, 152, [.nil, .d (.int .i64 0), .nil, .nil, .nil, .nil, .nil], false⟩ := rfl
theorem T92 : T 92 = some ⟨.struct [(0, 90), (2, 28)], 7, 152, [.nil, .d (.int .i64 0), .nil, .nil, .nil, .nil, .nil], false⟩ := rfl
theorem T93 : T 93 = some ⟨.other, 1, 8, [.d .nilfn], false⟩ := rfl
theorem T94 : T 94 = some ⟨.struct [(0, 3), (1, 3), (2, 3), (3, 3), (4, 3), (5, 4)], 6, 48, [.d (.int .i64 0), .d (.int .i64 0), .d (.int .i64 0), .d (.int .i64 0), .d (.int .i64 0), .d (.bool false)], true⟩ := rfl
theorem T95 : T 95 = some ⟨.struct [(0, 3), (1, 3), (2, 3), (3, 3), (4, 3), (5, 4)], 6, 48, [.d (.int .i64 0), .d (.int .i64 0), .d (.int .i64 0), .d (.int .i64 0), .d (.int .i64 0), .d (.bool false)], true⟩ := rfl
theorem T96 : T 96 = some ⟨.other, 1, 8, [.d .nilfn], false⟩ := rfl
theorem T97 : T 97 = some ⟨.other, 1, 8, [.d .nilfn], false⟩ := rfl
theorem T98 : T 98 = some ⟨.other, 1, 8, [.d .nilfn], false⟩ := rfl
theorem T99 : T 99 = some ⟨.other, 1, 8, [.d .nilfn], false⟩ := rfl
theorem T100 : T 100 = some ⟨.other, 1, 8, [.d .nilfn], false⟩ := rfl
theorem T101 : T 101 = some ⟨.other, 1, 8, [.d .nilfn], false⟩ := rfl
theorem T102 : T 102 = some ⟨.other, 1, 8, [.d .nilfn], false⟩ := rfl
theorem T103 : T 103 = some ⟨.other, 1, 8, [.d .nilfn], false⟩ := rfl
theorem T105 : T 105 = some ⟨.other, 1, 8, [.d .nilfn], false⟩ := rfl
theorem T106 : T 106 = some ⟨.struct [(0, 3), (1, 3), (2, 3)], 3, 24, [.d (.int .i64 0), .d (.int .i64 0), .d (.int .i64 0)], true⟩ := rfl
theorem T107 : T 107 = some ⟨.struct [(0, 3), (1, 3), (2, 3)], 3, 24, [.d (.int .i64 0), .d (.int .i64 0), .d (.int .i64 0)], true⟩ := rfl
theorem T108 : T 108 = some ⟨.struct [(0, 3), (1, 3), (2, 3)], 3, 24, [.d (.int .i64 0), .d (.int .i64 0), .d (.int .i64 0)], true⟩ := rfl
theorem T109 : T 109 = some ⟨.struct [(0, 3), (1, 3), (2, 3)], 3, 24, [.d (.int .i64 0), .d (.int .i64 0), .d (.int .i64 0)], true⟩ := rfl
theorem T111 : T 111 = some ⟨.other, 1, 8, [.d .nilfn], false⟩ := rfl
theorem T112 : T 112 = some ⟨.other, 1, 8, [.d .nilfn], false⟩ := rfl
theorem T113 : T 113 = some ⟨.other, 1, 8, [.d .nilfn], false⟩ := rfl
theorem T114 : T 114 = some ⟨.other, 1, 8, [.d .nilfn], false⟩ := rfl
theorem T115 : T 115 = some ⟨.other, 1, 8, [.d .nilfn], false⟩ := rfl
theorem T116 : T 116 = some ⟨.other, 1, 8, [.d .nilfn], false⟩ := rfl
theorem T117 : T 117 = some ⟨.other, 1, 8, [.d .nilfn], false⟩ := rfl
theorem T118 : T 118 = some ⟨.other, 1, 8, [.d .nilfn], false⟩ := rfl
theorem T119 : T 119 = some ⟨.other, 1, 8, [.d .nilfn], false⟩ := rfl
theorem T121 : T 121 = some ⟨.other, 1, 8, [.d .nilfn], false⟩ := rfl
theorem T123 : T 123 = some ⟨.other, 1, 8, [.d .nilfn], false⟩ := rfl
theorem T124 : T 124 = some ⟨.other, 1, 8, [.d .nilfn], false⟩ := rfl
theorem T125 : T 125 = some ⟨.other, 1, 8, [.nilptr], false⟩ := rfl
theorem T126 : T 126 = some ⟨.other, 1, 8, [.d .nilfn], false⟩ := rfl
theorem T127 : T 127 = some ⟨.other, 1, 8, [.d .nilfn], false⟩ := rfl
theorem T128 : T 128 = some ⟨.other, 1, 8, [.d .nilfn], false⟩ := rfl
theorem T129 : T 129 = some ⟨.other, 1, 8, [.d .nilfn], false⟩ := rfl
theorem T130 : T 130 = some ⟨.other, 1, 8, [.d .nilfn], false⟩ := rfl
theorem T131 : T 131 = some ⟨.other, 1, 8, [.d .nilfn], false⟩ := rfl
theorem T132 : T 132 = some ⟨.other, 1, 8, [.d .nilfn], false⟩ := rfl
theorem T133 : T 133 = some ⟨.slice 113, 1, 24, [.nil], false⟩ := rfl
theorem T134 : T 134 = some ⟨.other, 1, 8, [.d .nilfn], false⟩ := rfl
theorem T135 : T 135 = some ⟨.other, 1, 8, [.d .nilfn], false⟩ := rfl
theorem T136 : T 136 = some ⟨.other, 1, 8, [.d .nilfn], false⟩ := rfl
theorem T138 : T 138 = some ⟨.other, 1, 8, [.d .nilfn], false⟩ := rfl
theorem T139 : T 139 = some ⟨.other, 1, 8, [.d .nilfn], false⟩ := rfl
theorem T140 : T 140 = some ⟨.other, 1, 8, [.d .nilfn], false⟩ := rfl
theorem T141 : T 141 = some ⟨.other, 1, 8, [.d .nilfn], false⟩ := rfl
theorem T142 : T 142 = some ⟨.other, 1, 8, [.d .nilfn], false⟩ := rfl
theorem T143 : T 143 = some ⟨.other, 1, 8, [.d .nilfn], false⟩ := rfl
theorem T145 : T 145 = some ⟨.other, 1, 8, [.d .nilfn], false⟩ := rfl
theorem T147 : T 147 = some ⟨.other, 1, 8, [.d .nilfn], false⟩ := rfl
theorem T148 : T 148 = some ⟨.other, 1, 8, [.d .nilfn], false⟩ := rfl
theorem T149 : T 149 = some ⟨.other, 1, 8, [.d .nilfn], false⟩ := rfl
theorem T150 : T 150 = some ⟨.other, 1, 8, [.d .nilfn], false⟩ := rfl
theorem T151 : T 151 = some ⟨.other, 1, 8, [.d .nilfn], false⟩ := rfl
theorem T152 : T 152 = some ⟨.other, 1, 8, [.d .nilfn], false⟩ := rfl
theorem T153 : T 153 = some ⟨.other, 1, 8, [.d .nilfn], false⟩ := rfl
theorem T154 : T 154 = some ⟨.other, 1, 8, [.d .nilfn], false⟩ := rfl
theorem T155 : T 155 = some ⟨.other, 1, 8, [.d .nilfn], false⟩ := rfl
theorem T156 : T 156 = some ⟨.other, 1, 8, [.d .nilfn], false⟩ := rfl
theorem T157 : T 157 = some ⟨.other, 1, 8, [.d .nilfn], false⟩ := rfl
theorem T158 : T 158 = some ⟨.other, 1, 8, [.d .nilfn], false⟩ := rfl
theorem T159 : T 159 = some ⟨.other, 1, 8, [.d .nilfn], false⟩ := rfl
theorem T160 : T 160 = some ⟨.other, 1, 8, [.d .nilfn], false⟩ := rfl
theorem T161 : T 161 = some ⟨.other, 1, 8, [.d .nilfn], false⟩ := rfl
theorem T162 : T 162 = some ⟨.other, 1, 8, [.d .nilfn], false⟩ := rfl
theorem T163 : T 163 = some ⟨.other, 1, 8, [.d .nilfn], false⟩ := rfl
theorem T164 : T 164 = some ⟨.other, 1, 8, [.d .nilfn], false⟩ := rfl
theorem T170 : T 170 = some ⟨.int .u32, 1, 4, [.d (.int .u32 0)], false⟩ := rfl
theorem T174 : T 174 = some ⟨.other, 1, 8, [.nilptr], false⟩ := rfl
theorem ok1 : TIok Try.prog 1 ⟨.other, 1, 8, [.d .nilfn], false⟩ := TIok.of (.nilFunc) Try.underlying1 (rfl) (by kernel_rfl) rfl rfl rfl
theorem ok2 : TIok Try.prog 2 ⟨.int .i64, 1, 8, [.d (.int .i64 0)], false⟩ := TIok.of (.int .i64 0) Try.underlying2 (rfl) (by kernel_rfl) rfl rfl rfl
theorem ok3 : TIok Try.prog 3 ⟨.int .i64, 1, 8, [.d (.int .i64 0)], false⟩ := TIok.of (.int .i64 0) Try.underlying3 (rfl) (by kernel_rfl) rfl rfl rfl
theorem ok4 : TIok Try.prog 4 ⟨.bool, 1, 1, [.d (.bool false)], false⟩ := TIok.of (.bool false) Try.underlying4 (rfl) (by kernel_rfl) rfl rfl rfl
theorem ok5 : TIok Try.prog 5 ⟨.int .u8, 1, 1, [.d (.int .u8 0)], false⟩ := TIok.of (.int .u8 0) Try.underlying5 (rfl) (by kernel_rfl) rfl rfl rfl
theorem ok9 : TIok Try.prog 9 ⟨.str, 1, 16, [.d (.str ⟨#[]⟩)], false⟩ := TIok.of (.string ⟨#[]⟩) Try.underlying9 (rfl) (by kernel_rfl) rfl rfl rfl
theorem ok12 : TIok Try.prog 12 ⟨.int .u64, 1, 8, [.d (.int .u64 0)], false⟩ := TIok.of (.int .u64 0) Try.underlying12 (rfl) (by kernel_rfl) rfl rfl rfl
theorem ok21 : TIok Try.prog 21 ⟨.int .i32, 1, 4, [.d (.int .i32 0)], false⟩ := TIok.of (.int .i32 0) Try.underlying21 (rfl) (by kernel_rfl) rfl rfl rfl
theorem ok22 : TIok Try.prog 22 ⟨.slice 47, 1, 24, [.nil], false⟩ := TIok.of (.slice none 0 0) Try.underlying22 (rfl) (by kernel_rfl) rfl rfl rfl
theorem ok23 : TIok Try.prog 23 ⟨.slice 4, 1, 24, [.nil], false⟩ := TIok.of (.slice none 0 0) Try.underlying23 (rfl) (by kernel_rfl) rfl rfl rfl
theorem ok24 : TIok Try.prog 24 ⟨.slice 3, 1, 24, [.nil], false⟩ := TIok.of (.slice none 0 0) Try.underlying24 (rfl) (by kernel_rfl) rfl rfl rfl
theorem ok25 : TIok Try.prog 25 ⟨.slice 95, 1, 24, [.nil], false⟩ := TIok.of (.slice none 0 0) Try.underlying25 (rfl) (by kernel_rfl) rfl rfl rfl
theorem ok26 : TIok Try.prog 26 ⟨.slice 57, 1, 24, [.nil], false⟩ := TIok.of (.slice none 0 0) Try.underlying26 (rfl) (by kernel_rfl) rfl rfl rfl
theorem ok27 : TIok Try.prog 27 ⟨.struct [(0, 22), (1, 23), (2, 24), (3, 25), (4, 26)], 5, 120, [.nil, .nil, .nil, .nil, .nil], false⟩ := TIok.of (.agg #[.slice none 0 0, .slice none 0 0, .slice none 0 0, .slice none 0 0, .slice none 0 0]) Try.underlying27 (fields_of rfl) (by kernel_rfl) rfl rfl rfl
theorem ok28 : TIok Try.prog 28 ⟨.struct [(0, 22), (1, 23), (2, 24), (3, 25), (4, 26)], 5, 120, [.nil, .nil, .nil, .nil, .nil], false⟩ := TIok.of (.agg #[.slice none 0 0, .slice none 0 0, .slice none 0 0, .slice none 0 0, .slice none 0 0]) Try.underlying28 (fields_of rfl) (by kernel_rfl) rfl rfl rfl
theorem ok29 : TIok Try.prog 29 ⟨.other, 1, 8, [.d .nilfn], false⟩ := TIok.of (.nilFunc) Try.underlying29 (rfl) (by kernel_rfl) rfl rfl rfl
theorem ok30 : TIok Try.prog 30 ⟨.other, 1, 8, [.d .nilfn], false⟩ := TIok.of (.nilFunc) Try.underlying30 (rfl) (by kernel_rfl) rfl rfl rfl
theorem ok31 : TIok Try.prog 31 ⟨.int .i64, 1, 8, [.d (.int .i64 0)], false⟩ := TIok.of (.int .i64 0) Try.underlying31 (rfl) (by kernel_rfl) rfl rfl rfl
theorem ok33 : TIok Try.prog 33 ⟨.other, 1, 8, [.d .nilfn], false⟩ := TIok.of (.nilFunc) Try.underlying33 (rfl) (by kernel_rfl) rfl rfl rfl
theorem ok34 : TIok Try.prog 34 ⟨.struct [(0, 22), (1, 23), (2, 24), (3, 25), (4, 26)], 5, 120, [.nil, .nil, .nil, .nil, .nil], false⟩ := TIok.of (.agg #[.slice none 0 0, .slice none 0 0, .slice none 0 0, .slice none 0 0, .slice none 0 0]) Try.underlying34 (fields_of rfl) (by kernel_rfl) rfl rfl rfl
theorem ok36 : TIok Try.prog 36 ⟨.other, 1, 8, [.d .nilfn], false⟩ := TIok.of (.nilFunc) Try.underlying36 (rfl) (by kernel_rfl) rfl rfl rfl
theorem ok37 : TIok Try.prog 37 ⟨.other, 1, 8, [.d .nilfn], false⟩ := TIok.of (.nilFunc) Try.underlying37 (rfl) (by kernel_rfl) rfl rfl rfl
theorem ok38 : TIok Try.prog 38 ⟨.other, 1, 8, [.d .nilfn], false⟩ := TIok.of (.nilFunc) Try.underlying38 (rfl) (by kernel_rfl) rfl rfl rfl
theorem ok39 : TIok Try.prog 39 ⟨.other, 1, 8, [.d .nilfn], false⟩ := TIok.of (.nilFunc) Try.underlying39 (rfl) (by kernel_rfl) rfl rfl rfl
theorem ok40 : TIok Try.prog 40 ⟨.other, 1, 8, [.d .nilfn], false⟩ := TIok.of (.nilFunc) Try.underlying40 (rfl) (by kernel_rfl) rfl rfl rfl
theorem ok42 : TIok Try.prog 42 ⟨.other, 1, 8, [.d .nilfn], false⟩ := TIok.of (.nilFunc) Try.underlying42 (rfl) (by kernel_rfl) rfl rfl rfl
theorem ok43 : TIok Try.prog 43 ⟨.other, 1, 8, [.d .nilfn], false⟩ := TIok.of (.nilFunc) Try.underlying43 (rfl) (by kernel_rfl) rfl rfl rfl
theorem ok44 : TIok Try.prog 44 ⟨.other, 1, 8, [.d .nilfn], false⟩ := TIok.of (.nilFunc) Try.underlying44 (rfl) (by kernel_rfl) rfl rfl rfl
theorem ok45 : TIok Try.prog 45 ⟨.slice 107, 1, 24, [.nil], false⟩ := TIok.of (.slice none 0 0) Try.underlying45 (rfl) (by kernel_rfl) rfl rfl rfl
theorem ok46 : TIok Try.prog 46 ⟨.struct [(0, 3), (1, 3), (2, 3), (3, 45)], 4, 48, [.d (.int .i64 0), .d (.int .i64 0), .d (.int .i64 0), .nil], false⟩ := TIok.of (.agg #[.int .i64 0, .int .i64 0, .int .i64 0, .slice none 0 0]) Try.underlying46 (fields_of rfl) (by kernel_rfl) rfl rfl rfl
theorem ok47 : TIok Try.prog 47 ⟨.struct [(0, 3), (1, 3), (2, 3), (3, 45)], 4, 48, [.d (.int .i64 0), .d (.int .i64 0), .d (.int .i64 0), .nil], false⟩ := TIok.of (.agg #[.int .i64 0, .int .i64 0, .int .i64 0, .slice none 0 0]) Try.underlying47 (fields_of rfl) (by kernel_rfl) rfl rfl rfl
theorem ok48 : TIok Try.prog 48 ⟨.other, 1, 8, [.d .nilfn], false⟩ := TIok.of (.nilFunc) Try.underlying48 (rfl) (by kernel_rfl) rfl rfl rfl
theorem ok49 : TIok Try.prog 49 ⟨.other, 1, 8, [.d .nilfn], false⟩ := TIok.of (.nilFunc) Try.underlying49 (rfl) (by kernel_rfl) rfl rfl rfl
theorem ok50 : TIok Try.prog 50 ⟨.other, 1, 8, [.d .nilfn], false⟩ := TIok.of (.nilFunc) Try.underlying50 (rfl) (by kernel_rfl) rfl rfl rfl
theorem ok51 : TIok Try.prog 51 ⟨.other, 1, 8, [.d .nilfn], false⟩ := TIok.of (.nilFunc) Try.underlying51 (rfl) (by kernel_rfl) rfl rfl rfl
theorem ok52 : TIok Try.prog 52 ⟨.other, 1, 8, [.d .nilfn], false⟩ := TIok.of (.nilFunc) Try.underlying52 (rfl) (by kernel_rfl) rfl rfl rfl
theorem ok53 : TIok Try.prog 53 ⟨.other, 1, 8, [.d .nilfn], false⟩ := TIok.of (.nilFunc) Try.underlying53 (rfl) (by kernel_rfl) rfl rfl rfl
theorem ok54 : TIok Try.prog 54 ⟨.slice 109, 1, 24, [.nil], false⟩ := TIok.of (.slice none 0 0) Try.underlying54 (rfl) (by kernel_rfl) rfl rfl rfl
theorem ok55 : TIok Try.prog 55 ⟨.other, 1, 8, [.d .nilfn], false⟩ := TIok.of (.nilFunc) Try.underlying55 (rfl) (by kernel_rfl) rfl rfl rfl
theorem ok56 : TIok Try.prog 56 ⟨.struct [(0, 3), (1, 3), (2, 3)], 3, 24, [.d (.int .i64 0), .d (.int .i64 0), .d (.int .i64 0)], true⟩ := TIok.of (.agg #[.int .i64 0, .int .i64 0, .int .i64 0]) Try.underlying56 (fields_of rfl) (by kernel_rfl) rfl rfl rfl
theorem ok57 : TIok Try.prog 57 ⟨.struct [(0, 3), (1, 3), (2, 3)], 3, 24, [.d (.int .i64 0), .d (.int .i64 0), .d (.int .i64 0)], true⟩ := TIok.of (.agg #[.int .i64 0, .int .i64 0, .int .i64 0]) Try.underlying57 (fields_of rfl) (by kernel_rfl) rfl rfl rfl
theorem ok58 : TIok Try.prog 58 ⟨.other, 1, 8, [.d .nilfn], false⟩ := TIok.of (.nilFunc) Try.underlying58 (rfl) (by kernel_rfl) rfl rfl rfl
theorem ok59 : TIok Try.prog 59 ⟨.struct [(0, 3), (1, 3)], 2, 16, [.d (.int .i64 0), .d (.int .i64 0)], true⟩ := TIok.of (.agg #[.int .i64 0, .int .i64 0]) Try.underlying59 (fields_of rfl) (by kernel_rfl) rfl rfl rfl
theorem ok60 : TIok Try.prog 60 ⟨.struct [(0, 3), (1, 3)], 2, 16, [.d (.int .i64 0), .d (.int .i64 0)], true⟩ := TIok.of (.agg #[.int .i64 0, .int .i64 0]) Try.underlying60 (fields_of rfl) (by kernel_rfl) rfl rfl rfl
theorem ok61 : TIok Try.prog 61 ⟨.struct [(0, 60), (2, 22)], 3, 40, [.d (.int .i64 0), .d (.int .i64 0), .nil], false⟩ := TIok.of (.agg #[.int .i64 0, .int .i64 0, .slice none 0 0]) Try.underlying61 (fields_of rfl) (by kernel_rfl) rfl rfl rfl
theorem ok62 : TIok Try.prog 62 ⟨.struct [(0, 60), (2, 22)], 3, 40, [.d (.int .i64 0), .d (.int .i64 0), .nil], false⟩ := TIok.of (.agg #[.int .i64 0, .int .i64 0, .slice none 0 0]) Try.underlying62 (fields_of rfl) (by kernel_rfl) rfl rfl rfl
theorem ok63 : TIok Try.prog 63 ⟨.other, 1, 8, [.d .nilfn], false⟩ := TIok.of (.nilFunc) Try.underlying63 (rfl) (by kernel_rfl) rfl rfl rfl
theorem ok64 : TIok Try.prog 64 ⟨.other, 1, 8, [.d .nilfn], false⟩ := TIok.of (.nilFunc) Try.underlying64 (rfl) (by kernel_rfl) rfl rfl rfl
theorem ok65 : TIok Try.prog 65 ⟨.other, 1, 8, [.d .nilfn], false⟩ := TIok.of (.nilFunc) Try.underlying65 (rfl) (by kernel_rfl) rfl rfl rfl
theorem ok66 : TIok Try.prog 66 ⟨.other, 1, 8, [.d .nilfn], false⟩ := TIok.of (.nilFunc) Try.underlying66 (rfl) (by kernel_rfl) rfl rfl rfl
theorem ok67 : TIok Try.prog 67 ⟨.other, 1, 8, [.d .nilfn], false⟩ := TIok.of (.nilFunc) Try.underlying67 (rfl) (by kernel_rfl) rfl rfl rfl
theorem ok68 : TIok Try.prog 68 ⟨.other, 1, 8, [.d .nilfn], false⟩ := TIok.of (.nilFunc) Try.underlying68 (rfl) (by kernel_rfl) rfl rfl rfl
theorem ok69 : TIok Try.prog 69 ⟨.other, 1, 8, [.d .nilfn], false⟩ := TIok.of (.nilFunc) Try.underlying69 (rfl) (by kernel_rfl) rfl rfl rfl
theorem ok70 : TIok Try.prog 70 ⟨.other, 1, 8, [.d .nilfn], false⟩ := TIok.of (.nilFunc) Try.underlying70 (rfl) (by kernel_rfl) rfl rfl rfl
theorem ok71 : TIok Try.prog 71 ⟨.other, 1, 8, [.d .nilfn], false⟩ := TIok.of (.nilFunc) Try.underlying71 (rfl) (by kernel_rfl) rfl rfl rfl
theorem ok72 : TIok Try.prog 72 ⟨.other, 1, 8, [.d .nilfn], false⟩ := TIok.of (.nilFunc) Try.underlying72 (rfl) (by kernel_rfl) rfl rfl rfl
theorem ok73 : TIok Try.prog 73 ⟨.other, 1, 8, [.d .nilfn], false⟩ := TIok.of (.nilFunc) Try.underlying73 (rfl) (by kernel_rfl) rfl rfl rfl
theorem ok74 : TIok Try.prog 74 ⟨.other, 1, 8, [.d .nilfn], false⟩ := TIok.of (.nilFunc) Try.underlying74 (rfl) (by kernel_rfl) rfl rfl rfl
theorem ok76 : TIok Try.prog 76 ⟨.other, 1, 8, [.d .nilfn], false⟩ := TIok.of (.nilFunc) Try.underlying76 (rfl) (by kernel_rfl) rfl rfl rfl
theorem ok77 : TIok Try.prog 77 ⟨.other, 1, 8, [.d .nilfn], false⟩ := TIok.of (.nilFunc) Try.underlying77 (rfl) (by kernel_rfl) rfl rfl rfl
theorem ok78 : TIok Try.prog 78 ⟨.slice 80, 1, 24, [.nil], false⟩ := TIok.of (.slice none 0 0) Try.underlying78 (rfl) (by kernel_rfl) rfl rfl rfl
theorem ok79 : TIok Try.prog 79 ⟨.struct [(0, 3), (1, 3), (2, 3), (3, 47)], 7, 72, [.d (.int .i64 0), .d (.int .i64 0), .d (.int .i64 0), .d (.int .i64 0), .d (.int .i64 0), .d (.int .i64 0), .nil], false⟩ := TIok.of (.agg #[.int .i64 0, .int .i64 0, .int .i64 0, .int .i64 0, .int .i64 0, .int .i64 0, .slice none 0 0]) Try.underlying79 (fields_of rfl) (by kernel_rfl) rfl rfl rfl
theorem ok80 : TIok Try.prog 80 ⟨.struct [(0, 3), (1, 3), (2, 3), (3, 47)], 7, 72, [.d (.int .i64 0), .d (.int .i64 0), .d (.int .i64 0), .d (.int .i64 0), .d (.int .i64 0), .d (.int .i64 0), .nil], false⟩ := TIok.of (.agg #[.int .i64 0, .int .i64 0, .int .i64 0, .int .i64 0, .int .i64 0, .int .i64 0, .slice none 0 0]) Try.underlying80 (fields_of rfl) (by kernel_rfl) rfl rfl rfl
theorem ok81 : TIok Try.prog 81 ⟨.other, 1, 8, [.d .nilfn], false⟩ := TIok.of (.nilFunc) Try.underlying81 (rfl) (by kernel_rfl) rfl rfl rfl
theorem ok82 : TIok Try.prog 82 ⟨.other, 1, 8, [.d .nilfn], false⟩ := TIok.of (.nilFunc) Try.underlying82 (rfl) (by kernel_rfl) rfl rfl rfl
theorem ok83 : TIok Try.prog 83 ⟨.other, 1, 8, [.d .nilfn], false⟩ := TIok.of (.nilFunc) Try.underlying83 (rfl) (by kernel_rfl) rfl rfl rfl
theorem ok84 : TIok Try.prog 84 ⟨.other, 1, 8, [.nilptr], false⟩ := TIok.of (.pointer none) Try.underlying84 (rfl) (by kernel_rfl) rfl rfl rfl
theorem ok85 : TIok Try.prog 85 ⟨.other, 1, 8, [.d .nilfn], false⟩ := TIok.of (.nilFunc) Try.underlying85 (rfl) (by kernel_rfl) rfl rfl rfl
theorem ok87 : TIok Try.prog 87 ⟨.other, 1, 8, [.d .nilfn], false⟩ := TIok.of (.nilFunc) Try.underlying87 (rfl) (by kernel_rfl) rfl rfl rfl
theorem ok88 : TIok Try.prog 88 ⟨.other, 1, 8, [.d .nilfn], false⟩ := TIok.of (.nilFunc) Try.underlying88 (rfl) (by kernel_rfl) rfl rfl rfl
theorem ok89 : TIok Try.prog 89 ⟨.struct [(0, 26), (1, 3)], 2, 32, [.nil, .d (.int .i64 0)], false⟩ := TIok.of (.agg #[.slice none 0 0, .int .i64 0]) Try.underlying89 (fields_of rfl) (by kernel_rfl) rfl rfl rfl
theorem ok90 : TIok Try.prog 90 ⟨.struct [(0, 26), (1, 3)], 2, 32, [.nil, .d (.int .i64 0)], false⟩ := TIok.of (.agg #[.slice none 0 0, .int .i64 0]) Try.underlying90 (fields_of rfl) (by kernel_rfl) rfl rfl rfl
theorem ok91 : TIok Try.prog 91 ⟨.struct [(0, 90), (2, 28)], 7, 152, [.nil, .d (.int .i64 0), .nil, .nil, .nil, .nil, .nil], false⟩ := TIok.of (.agg #[.slice none 0 0, .int .i64 0, .slice none 0 0, .slice none 0 0, .slice none 0 0, .slice none 0 0, .slice none 0 0]) Try.underlying91 (fields_of rfl) (by kernel_rfl) rfl rfl rfl
theorem ok92 : TIok Try.prog 92 ⟨.struct [(0, 90), (2, 28)], 7, 152, [.nil, .d (.int .i64 0), .nil, .nil, .nil, .nil, .nil], false⟩ := TIok.of (.agg #[.slice none 0 0, .int .i64 0, .slice none 0 0, .slice none 0 0, .slice none 0 0, .slice none 0 0, .slice none 0 0]) Try.underlying92 (fields_of rfl) (by kernel_rfl) rfl rfl rfl
theorem ok93 : TIok Try.prog 93 ⟨.other, 1, 8, [.d .nilfn], false⟩ := TIok.of (.nilFunc) Try.underlying93 (rfl) (by kernel_rfl) rfl rfl rfl
theorem ok94 : TIok Try.prog 94 ⟨.struct [(0, 3), (1, 3), (2, 3), (3, 3), (4, 3), (5, 4)], 6, 48, [.d (.int .i64 0), .d (.int .i64 0), .d (.int .i64 0), .d (.int .i64 0), .d (.int .i64 0), .d (.bool false)], true⟩ := TIok.of (.agg #[.int .i64 0, .int .i64 0, .int .i64 0, .int .i64 0, .int .i64 0, .bool false]) Try.underlying94 (fields_of rfl) (by kernel_rfl) rfl rfl rfl
theorem ok95 : TIok Try.prog 95 ⟨.struct [(0, 3), (1, 3), (2, 3), (3, 3), (4, 3), (5, 4)], 6, 48, [.d (.int .i64 0), .d (.int .i64 0), .d (.int .i64 0), .d (.int .i64 0), .d (.int .i64 0), .d (.bool false)], true⟩ := TIok.of (.agg #[.int .i64 0, .int .i64 0, .int .i64 0, .int .i64 0, .int .i64 0, .bool false]) Try.underlying95 (fields_of rfl) (by kernel_rfl) rfl rfl rfl
theorem ok96 : TIok Try.prog 96 ⟨.other, 1, 8, [.d .nilfn], false⟩ := TIok.of (.nilFunc) Try.underlying96 (rfl) (by kernel_rfl) rfl rfl rfl
theorem ok97 : TIok Try.prog 97 ⟨.other, 1, 8, [.d .nilfn], false⟩ := TIok.of (.nilFunc) Try.underlying97 (rfl) (by kernel_rfl) rfl rfl rfl
theorem ok98 : TIok Try.prog 98 ⟨.other, 1, 8, [.d .nilfn], false⟩ := TIok.of (.nilFunc) Try.underlying98 (rfl) (by kernel_rfl) rfl rfl rfl
theorem ok99 : TIok Try.prog 99 ⟨.other, 1, 8, [.d .nilfn], false⟩ := TIok.of (.nilFunc) Try.underlying99 (rfl) (by kernel_rfl) rfl rfl rfl
theorem ok100 : TIok Try.prog 100 ⟨.other, 1, 8, [.d .nilfn], false⟩ := TIok.of (.nilFunc) Try.underlying100 (rfl) (by kernel_rfl) rfl rfl rfl
theorem ok101 : TIok Try.prog 101 ⟨.other, 1, 8, [.d .nilfn], false⟩ := TIok.of (.nilFunc) Try.underlying101 (rfl) (by kernel_rfl) rfl rfl rfl
theorem ok102 : TIok Try.prog 102 ⟨.other, 1, 8, [.d .nilfn], false⟩ := TIok.of (.nilFunc) Try.underlying102 (rfl) (by kernel_rfl) rfl rfl rfl
theorem ok103 : TIok Try.prog 103 ⟨.other, 1, 8, [.d .nilfn], false⟩ := TIok.of (.nilFunc) Try.underlying103 (rfl) (by kernel_rfl) rfl rfl rfl
theorem ok105 : TIok Try.prog 105 ⟨.other, 1, 8, [.d .nilfn], false⟩ := TIok.of (.nilFunc) Try.underlying105 (rfl) (by kernel_rfl) rfl rfl rfl
theorem ok106 : TIok Try.prog 106 ⟨.struct [(0, 3), (1, 3), (2, 3)], 3, 24, [.d (.int .i64 0), .d (.int .i64 0), .d (.int .i64 0)], true⟩ := TIok.of (.agg #[.int .i64 0, .int .i64 0, .int .i64 0]) Try.underlying106 (fields_of rfl) (by kernel_rfl) rfl rfl rfl
theorem ok107 : TIok Try.prog 107 ⟨.struct [(0, 3), (1, 3), (2, 3)], 3, 24, [.d (.int .i64 0), .d (.int .i64 0), .d (.int .i64 0)], true⟩ := TIok.of (.agg #[.int .i64 0, .int .i64 0, .int .i64 0]) Try.underlying107 (fields_of rfl) (by kernel_rfl) rfl rfl rfl
theorem ok108 : TIok Try.prog 108 ⟨.struct [(0, 3), (1, 3), (2, 3)], 3, 24, [.d (.int .i64 0), .d (.int .i64 0), .d (.int .i64 0)], true⟩ := TIok.of (.agg #[.int .i64 0, .int .i64 0, .int .i64 0]) Try.underlying108 (fields_of rfl) (by kernel_rfl) rfl rfl rfl
theorem ok109 : TIok Try.prog 109 ⟨.struct [(0, 3), (1, 3), (2, 3)], 3, 24, [.d (.int .i64 0), .d (.int .i64 0), .d (.int .i64 0)], true⟩ := TIok.of (.agg #[.int .i64 0, .int .i64 0, .int .i64 0]) Try.underlying109 (fields_of rfl) (by kernel_rfl) rfl rfl rfl
theorem ok111 : TIok Try.prog 111 ⟨.other, 1, 8, [.d .nilfn], false⟩ := TIok.of (.nilFunc) Try.underlying111 (rfl) (by kernel_rfl) rfl rfl rfl
theorem ok112 : TIok Try.prog 112 ⟨.other, 1, 8, [.d .nilfn], false⟩ := TIok.of (.nilFunc) Try.underlying112 (rfl) (by kernel_rfl) rfl rfl rfl
theorem ok113 : TIok Try.prog 113 ⟨.other, 1, 8, [.d .nilfn], false⟩ := TIok.of (.nilFunc) Try.underlying113 (rfl) (by kernel_rfl) rfl rfl rfl
theorem ok114 : TIok Try.prog 114 ⟨.other, 1, 8, [.d .nilfn], false⟩ := TIok.of (.nilFunc) Try.underlying114 (rfl) (by kernel_rfl) rfl rfl rfl
theorem ok115 : TIok Try.prog 115 ⟨.other, 1, 8, [.d .nilfn], false⟩ := TIok.of (.nilFunc) Try.underlying115 (rfl) (by kernel_rfl) rfl rfl rfl
theorem ok116 : TIok Try.prog 116 ⟨.other, 1, 8, [.d .nilfn], false⟩ := TIok.of (.nilFunc) Try.underlying116 (rfl) (by kernel_rfl) rfl rfl rfl
theorem ok117 : TIok Try.prog 117 ⟨.other, 1, 8, [.d .nilfn], false⟩ := TIok.of (.nilFunc) Try.underlying117 (rfl) (by kernel_rfl) rfl rfl rfl
theorem ok118 : TIok Try.prog 118 ⟨.other, 1, 8, [.d .nilfn], false⟩ := TIok.of (.nilFunc) Try.underlying118 (rfl) (by kernel_rfl) rfl rfl rfl
theorem ok119 : TIok Try.prog 119 ⟨.other, 1, 8, [.d .nilfn], false⟩ := TIok.of (.nilFunc) Try.underlying119 (rfl) (by kernel_rfl) rfl rfl rfl
theorem ok121 : TIok Try.prog 121 ⟨.other, 1, 8, [.d .nilfn], false⟩ := TIok.of (.nilFunc) Try.underlying121 (rfl) (by kernel_rfl) rfl rfl rfl
theorem ok123 : TIok Try.prog 123 ⟨.other, 1, 8, [.d .nilfn], false⟩ := TIok.of (.nilFunc) Try.underlying123 (rfl) (by kernel_rfl) rfl rfl rfl
theorem ok124 : TIok Try.prog 124 ⟨.other, 1, 8, [.d .nilfn], false⟩ := TIok.of (.nilFunc) Try.underlying124 (rfl) (by kernel_rfl) rfl rfl rfl
theorem ok125 : TIok Try.prog 125 ⟨.other, 1, 8, [.nilptr], false⟩ := TIok.of (.pointer none) Try.underlying125 (rfl) (by kernel_rfl) rfl rfl rfl
theorem ok126 : TIok Try.prog 126 ⟨.other, 1, 8, [.d .nilfn], false⟩ := TIok.of (.nilFunc) Try.underlying126 (rfl) (by kernel_rfl) rfl rfl rfl
theorem ok127 : TIok Try.prog 127 ⟨.other, 1, 8, [.d .nilfn], false⟩ := TIok.of (.nilFunc) Try.underlying127 (rfl) (by kernel_rfl) rfl rfl rfl
theorem ok128 : TIok Try.prog 128 ⟨.other, 1, 8, [.d .nilfn], false⟩ := TIok.of (.nilFunc) Try.underlying128 (rfl) (by kernel_rfl) rfl rfl rfl
theorem ok129 : TIok Try.prog 129 ⟨.other, 1, 8, [.d .nilfn], false⟩ := TIok.of (.nilFunc) Try.underlying129 (rfl) (by kernel_rfl) rfl rfl rfl
theorem ok130 : TIok Try.prog 130 ⟨.other, 1, 8, [.d .nilfn], false⟩ := TIok.of (.nilFunc) Try.underlying130 (rfl) (by kernel_rfl) rfl rfl rfl
theorem ok131 : TIok Try.prog 131 ⟨.other, 1, 8, [.d .nilfn], false⟩ := TIok.of (.nilFunc) Try.underlying131 (rfl) (by kernel_rfl) rfl rfl rfl
theorem ok132 : TIok Try.prog 132 ⟨.other, 1, 8, [.d .nilfn], false⟩ := TIok.of (.nilFunc) Try.underlying132 (rfl) (by kernel_rfl) rfl rfl rfl
theorem ok133 : TIok Try.prog 133 ⟨.slice 113, 1, 24, [.nil], false⟩ := TIok.of (.slice none 0 0) Try.underlying133 (rfl) (by kernel_rfl) rfl rfl rfl
theorem ok134 : TIok Try.prog 134 ⟨.other, 1, 8, [.d .nilfn], false⟩ := TIok.of (.nilFunc) Try.underlying134 (rfl) (by kernel_rfl) rfl rfl rfl
theorem ok135 : TIok Try.prog 135 ⟨.other, 1, 8, [.d .nilfn], false⟩ := TIok.of (.nilFunc) Try.underlying135 (rfl) (by kernel_rfl) rfl rfl rfl
theorem ok136 : TIok Try.prog 136 ⟨.other, 1, 8, [.d .nilfn], false⟩ := TIok.of (.nilFunc) Try.underlying136 (rfl) (by kernel_rfl) rfl rfl rfl
theorem ok138 : TIok Try.prog 138 ⟨.other, 1, 8, [.d .nilfn], false⟩ := TIok.of (.nilFunc) Try.underlying138 (rfl) (by kernel_rfl) rfl rfl rfl
theorem ok139 : TIok Try.prog 139 ⟨.other, 1, 8, [.d .nilfn], false⟩ := TIok.of (.nilFunc) Try.underlying139 (rfl) (by kernel_rfl) rfl rfl rfl
theorem ok140 : TIok Try.prog 140 ⟨.other, 1, 8, [.d .nilfn], false⟩ := TIok.of (.nilFunc) Try.underlying140 (rfl) (by kernel_rfl) rfl rfl rfl
theorem ok141 : TIok Try.prog 141 ⟨.other, 1, 8, [.d .nilfn], false⟩ := TIok.of (.nilFunc) Try.underlying141 (rfl) (by kernel_rfl) rfl rfl rfl
theorem ok142 : TIok Try.prog 142 ⟨.other, 1, 8, [.d .nilfn], false⟩ := TIok.of (.nilFunc) Try.underlying142 (rfl) (by kernel_rfl) rfl rfl rfl
theorem ok143 : TIok Try.prog 143 ⟨.other, 1, 8, [.d .nilfn], false⟩ := TIok.of (.nilFunc) Try.underlying143 (rfl) (by kernel_rfl) rfl rfl rfl
theorem ok145 : TIok Try.prog 145 ⟨.other, 1, 8, [.d .nilfn], false⟩ := TIok.of (.nilFunc) Try.underlying145 (rfl) (by kernel_rfl) rfl rfl rfl
theorem ok147 : TIok Try.prog 147 ⟨.other, 1, 8, [.d .nilfn], false⟩ := TIok.of (.nilFunc) Try.underlying147 (rfl) (by kernel_rfl) rfl rfl rfl
theorem ok148 : TIok Try.prog 148 ⟨.other, 1, 8, [.d .nilfn], false⟩ := TIok.of (.nilFunc) Try.underlying148 (rfl) (by kernel_rfl) rfl rfl rfl
theorem ok149 : TIok Try.prog 149 ⟨.other, 1, 8, [.d .nilfn], false⟩ := TIok.of (.nilFunc) Try.underlying149 (rfl) (by kernel_rfl) rfl rfl rfl
theorem ok150 : TIok Try.prog 150 ⟨.other, 1, 8, [.d .nilfn], false⟩ := TIok.of (.nilFunc) Try.underlying150 (rfl) (by kernel_rfl) rfl rfl rfl
theorem ok151 : TIok Try.prog 151 ⟨.other, 1, 8, [.d .nilfn], false⟩ := TIok.of (.nilFunc) Try.underlying151 (rfl) (by kernel_rfl) rfl rfl rfl
theorem ok152 : TIok Try.prog 152 ⟨.other, 1, 8, [.d .nilfn], false⟩ := TIok.of (.nilFunc) Try.underlying152 (rfl) (by kernel_rfl) rfl rfl rfl
theorem ok153 : TIok Try.prog 153 ⟨.other, 1, 8, [.d .nilfn], false⟩ := TIok.of (.nilFunc) Try.underlying153 (rfl) (by kernel_rfl) rfl rfl rfl
theorem ok154 : TIok Try.prog 154 ⟨.other, 1, 8, [.d .nilfn], false⟩ := TIok.of (.nilFunc) Try.underlying154 (rfl) (by kernel_rfl) rfl rfl rfl
theorem ok155 : TIok Try.prog 155 ⟨.other, 1, 8, [.d .nilfn], false⟩ := TIok.of (.nilFunc) Try.underlying155 (rfl) (by kernel_rfl) rfl rfl rfl
theorem ok156 : TIok Try.prog 156 ⟨.other, 1, 8, [.d .nilfn], false⟩ := TIok.of (.nilFunc) Try.underlying156 (rfl) (by kernel_rfl) rfl rfl rfl
theorem ok157 : TIok Try.prog 157 ⟨.other, 1, 8, [.d .nilfn], false⟩ := TIok.of (.nilFunc) Try.underlying157 (rfl) (by kernel_rfl) rfl rfl rfl
theorem ok158 : TIok Try.prog 158 ⟨.other, 1, 8, [.d .nilfn], false⟩ := TIok.of (.nilFunc) Try.underlying158 (rfl) (by kernel_rfl) rfl rfl rfl
theorem ok159 : TIok Try.prog 159 ⟨.other, 1, 8, [.d .nilfn], false⟩ := TIok.of (.nilFunc) Try.underlying159 (rfl) (by kernel_rfl) rfl rfl rfl
theorem ok160 : TIok Try.prog 160 ⟨.other, 1, 8, [.d .nilfn], false⟩ := TIok.of (.nilFunc) Try.underlying160 (rfl) (by kernel_rfl) rfl rfl rfl
theorem ok161 : TIok Try.prog 161 ⟨.other, 1, 8, [.d .nilfn], false⟩ := TIok.of (.nilFunc) Try.underlying161 (rfl) (by kernel_rfl) rfl rfl rfl
theorem ok162 : TIok Try.prog 162 ⟨.other, 1, 8, [.d .nilfn], false⟩ := TIok.of (.nilFunc) Try.underlying162 (rfl) (by kernel_rfl) rfl rfl rfl
theorem ok163 : TIok Try.prog 163 ⟨.other, 1, 8, [.d .nilfn], false⟩ := TIok.of (.nilFunc) Try.underlying163 (rfl) (by kernel_rfl) rfl rfl rfl
theorem ok164 : TIok Try.prog 164 ⟨.other, 1, 8, [.d .nilfn], false⟩ := TIok.of (.nilFunc) Try.underlying164 (rfl) (by kernel_rfl) rfl rfl rfl
theorem ok170 : TIok Try.prog 170 ⟨.int .u32, 1, 4, [.d (.int .u32 0)], false⟩ := TIok.of (.int .u32 0) Try.underlying170 (rfl) (by kernel_rfl) rfl rfl rfl
theorem ok174 : TIok Try.prog 174 ⟨.other, 1, 8, [.nilptr], false⟩ := TIok.of (.pointer none) Try.underlying174 (rfl) (by kernel_rfl) rfl rfl rfl
theorem eq56 : EqTells Try.prog 56 [some .i64, some .i64, some .i64] := eqTells_of (F := _) Try.underlying56 (by kernel_rfl) (by kernel_rfl) (fun i f h => by
  rcases i with _ | i
  · cases h; exact ⟨by decide, rfl, _, rfl, Try.underlying3⟩
  rcases i with _ | i
  · cases h; exact ⟨by decide, rfl, _, rfl, Try.underlying3⟩
  rcases i with _ | i
  · cases h; exact ⟨by decide, rfl, _, rfl, Try.underlying3⟩
  simp at h) rfl
theorem eq57 : EqTells Try.prog 57 [some .i64, some .i64, some .i64] := eqTells_of (F := _) Try.underlying57 (by kernel_rfl) (by kernel_rfl) (fun i f h => by
  rcases i with _ | i
  · cases h; exact ⟨by decide, rfl, _, rfl, Try.underlying3⟩
  rcases i with _ | i
  · cases h; exact ⟨by decide, rfl, _, rfl, Try.underlying3⟩
  rcases i with _ | i
  · cases h; exact ⟨by decide, rfl, _, rfl, Try.underlying3⟩
  simp at h) rfl
theorem eq59 : EqTells Try.prog 59 [some .i64, some .i64] := eqTells_of (F := _) Try.underlying59 (by kernel_rfl) (by kernel_rfl) (fun i f h => by
  rcases i with _ | i
  · cases h; exact ⟨by decide, rfl, _, rfl, Try.underlying3⟩
  rcases i with _ | i
  · cases h; exact ⟨by decide, rfl, _, rfl, Try.underlying3⟩
  simp at h) rfl
theorem eq60 : EqTells Try.prog 60 [some .i64, some .i64] := eqTells_of (F := _) Try.underlying60 (by kernel_rfl) (by kernel_rfl) (fun i f h => by
  rcases i with _ | i
  · cases h; exact ⟨by decide, rfl, _, rfl, Try.underlying3⟩
  rcases i with _ | i
  · cases h; exact ⟨by decide, rfl, _, rfl, Try.underlying3⟩
  simp at h) rfl
theorem eq94 : EqTells Try.prog 94 [some .i64, some .i64, some .i64, some .i64, some .i64, none] := eqTells_of (F := _) Try.underlying94 (by kernel_rfl) (by kernel_rfl) (fun i f h => by
  rcases i with _ | i
  · cases h; exact ⟨by decide, rfl, _, rfl, Try.underlying3⟩
  rcases i with _ | i
  · cases h; exact ⟨by decide, rfl, _, rfl, Try.underlying3⟩
  rcases i with _ | i
  · cases h; exact ⟨by decide, rfl, _, rfl, Try.underlying3⟩
  rcases i with _ | i
  · cases h; exact ⟨by decide, rfl, _, rfl, Try.underlying3⟩
  rcases i with _ | i
  · cases h; exact ⟨by decide, rfl, _, rfl, Try.underlying3⟩
  rcases i with _ | i
  · cases h; exact ⟨by decide, rfl, _, rfl, Try.underlying4⟩
  simp at h) rfl
theorem eq95 : EqTells Try.prog 95 [some .i64, some .i64, some .i64, some .i64, some .i64, none] := eqTells_of (F := _) Try.underlying95 (by kernel_rfl) (by kernel_rfl) (fun i f h => by
  rcases i with _ | i
  · cases h; exact ⟨by decide, rfl, _, rfl, Try.underlying3⟩
  rcases i with _ | i
  · cases h; exact ⟨by decide, rfl, _, rfl, Try.underlying3⟩
  rcases i with _ | i
  · cases h; exact ⟨by decide, rfl, _, rfl, Try.underlying3⟩
  rcases i with _ | i
  · cases h; exact ⟨by decide, rfl, _, rfl, Try.underlying3⟩
  rcases i with _ | i
  · cases h; exact ⟨by decide, rfl, _, rfl, Try.underlying3⟩
  rcases i with _ | i
  · cases h; exact ⟨by decide, rfl, _, rfl, Try.underlying4⟩
  simp at h) rfl
theorem eq106 : EqTells Try.prog 106 [some .i64, some .i64, some .i64] := eqTells_of (F := _) Try.underlying106 (by kernel_rfl) (by kernel_rfl) (fun i f h => by
  rcases i with _ | i
  · cases h; exact ⟨by decide, rfl, _, rfl, Try.underlying3⟩
  rcases i with _ | i
  · cases h; exact ⟨by decide, rfl, _, rfl, Try.underlying3⟩
  rcases i with _ | i
  · cases h; exact ⟨by decide, rfl, _, rfl, Try.underlying3⟩
  simp at h) rfl
theorem eq107 : EqTells Try.prog 107 [some .i64, some .i64, some .i64] := eqTells_of (F := _) Try.underlying107 (by kernel_rfl) (by kernel_rfl) (fun i f h => by
  rcases i with _ | i
  · cases h; exact ⟨by decide, rfl, _, rfl, Try.underlying3⟩
  rcases i with _ | i
  · cases h; exact ⟨by decide, rfl, _, rfl, Try.underlying3⟩
  rcases i with _ | i
  · cases h; exact ⟨by decide, rfl, _, rfl, Try.underlying3⟩
  simp at h) rfl
theorem eq108 : EqTells Try.prog 108 [some .i64, some .i64, some .i64] := eqTells_of (F := _) Try.underlying108 (by kernel_rfl) (by kernel_rfl) (fun i f h => by
  rcases i with _ | i
  · cases h; exact ⟨by decide, rfl, _, rfl, Try.underlying3⟩
  rcases i with _ | i
  · cases h; exact ⟨by decide, rfl, _, rfl, Try.underlying3⟩
  rcases i with _ | i
  · cases h; exact ⟨by decide, rfl, _, rfl, Try.underlying3⟩
  simp at h) rfl
theorem eq109 : EqTells Try.prog 109 [some .i64, some .i64, some .i64] := eqTells_of (F := _) Try.underlying109 (by kernel_rfl) (by kernel_rfl) (fun i f h => by
  rcases i with _ | i
  · cases h; exact ⟨by decide, rfl, _, rfl, Try.underlying3⟩
  rcases i with _ | i
  · cases h; exact ⟨by decide, rfl, _, rfl, Try.underlying3⟩
  rcases i with _ | i
  · cases h; exact ⟨by decide, rfl, _, rfl, Try.underlying3⟩
  simp at h) rfl
theorem tab : TabOk Try.prog T := by
  refine TabOk.of (by kernel_rfl) (assoc_all (l := tl) (Q := fun t i => TIok Try.prog t i) ?_) (assoc_all (l := tl) (Q := fun t i => i.eq = true → ∀ ks, i.kds = some ks → EqTells Try.prog t ks) ?_) (fun t i fs h hk => assoc_all (l := tl) (Q := fun _ i => ∀ fs, i.k = .struct fs → fs.all (fun x => (T x.2).isSome) = true) ?_ t i h fs hk)
  · simp only [tl, List.forall_mem_cons, List.not_mem_nil, false_implies, implies_true, and_true]
    exact ⟨ok1, ok2, ok3, ok4, ok5, ok9, ok12, ok21, ok22, ok23, ok24, ok25, ok26, ok27, ok28, ok29, ok30, ok31, ok33, ok34, ok36, ok37, ok38, ok39, ok40, ok42, ok43, ok44, ok45, ok46, ok47, ok48, ok49, ok50, ok51, ok52, ok53, ok54, ok55, ok56, ok57, ok58, ok59, ok60, ok61, ok62, ok63, ok64, ok65, ok66, ok67, ok68, ok69, ok70, ok71, ok72, ok73, ok74, ok76, ok77, ok78, ok79, ok80, ok81, ok82, ok83, ok84, ok85, ok87, ok88, ok89, ok90, ok91, ok92, ok93, ok94, ok95, ok96, ok97, ok98, ok99, ok100, ok101, ok102, ok103, ok105, ok106, ok107, ok108, ok109, ok111, ok112, ok113, ok114, ok115, ok116, ok117, ok118, ok119, ok121, ok123, ok124, ok125, ok126, ok127, ok128, ok129, ok130, ok131, ok132, ok133, ok134, ok135, ok136, ok138, ok139, ok140, ok141, ok142, ok143, ok145, ok147, ok148, ok149, ok150, ok151, ok152, ok153, ok154, ok155, ok156, ok157, ok158, ok159, ok160, ok161, ok162, ok163, ok164, ok170, ok174⟩
  · simp only [tl, List.forall_mem_cons, List.not_mem_nil, false_implies, implies_true, and_true]
    exact ⟨(fun h => by cases h), (fun h => by cases h), (fun h => by cases h), (fun h => by cases h), (fun h => by cases h), (fun h => by cases h), (fun h => by cases h), (fun h => by cases h), (fun h => by cases h), (fun h => by cases h), (fun h => by cases h), (fun h => by cases h), (fun h => by cases h), (fun h => by cases h), (fun h => by cases h), (fun h => by cases h), (fun h => by cases h), (fun h => by cases h), (fun h => by cases h), (fun h => by cases h), (fun h => by cases h), (fun h => by cases h), (fun h => by cases h), (fun h => by cases h), (fun h => by cases h), (fun h => by cases h), (fun h => by cases h), (fun h => by cases h), (fun h => by cases h), (fun h => by cases h), (fun h => by cases h), (fun h => by cases h), (fun h => by cases h), (fun h => by cases h), (fun h => by cases h), (fun h => by cases h), (fun h => by cases h), (fun h => by cases h), (fun h => by cases h), (fun _ ks h => by cases h; exact eq56), (fun _ ks h => by cases h; exact eq57), (fun h => by cases h), (fun _ ks h => by cases h; exact eq59), (fun _ ks h => by cases h; exact eq60), (fun h => by cases h), (fun h => by cases h), (fun h => by cases h), (fun h => by cases h), (fun h => by cases h), (fun h => by cases h), (fun h => by cases h), (fun h => by cases h), (fun h => by cases h), (fun h => by cases h), (fun h => by cases h), (fun h => by cases h), (fun h => by cases h), (fun h => by cases h), (fun h => by cases h), (fun h => by cases h), (fun h => by cases h), (fun h => by cases h), (fun h => by cases h), (fun h => by cases h), (fun h => by cases h), (fun h => by cases h), (fun h => by cases h), (fun h => by cases h), (fun h => by cases h), (fun h => by cases h), (fun h => by cases h), (fun h => by cases h), (fun h => by cases h), (fun h => by cases h), (fun h => by cases h), (fun _ ks h => by cases h; exact eq94), (fun _ ks h => by cases h; exact eq95), (fun h => by cases h), (fun h => by cases h), (fun h => by cases h), (fun h => by cases h), (fun h => by cases h), (fun h => by cases h), (fun h => by cases h), (fun h => by cases h), (fun h => by cases h), (fun _ ks h => by cases h; exact eq106), (fun _ ks h => by cases h; exact eq107), (fun _ ks h => by cases h; exact eq108), (fun _ ks h => by cases h; exact eq109), (fun h => by cases h), (fun h => by cases h), (fun h => by cases h), (fun h => by cases h), (fun h => by cases h), (fun h => by cases h), (fun h => by cases h), (fun h => by cases h), (fun h => by cases h), (fun h => by cases h), (fun h => by cases h), (fun h => by cases h), (fun h => by cases h), (fun h => by cases h), (fun h => by cases h), (fun h => by cases h), (fun h => by cases h), (fun h => by cases h), (fun h => by cases h), (fun h => by cases h), (fun h => by cases h), (fun h => by cases h), (fun h => by cases h), (fun h => by cases h), (fun h => by cases h), (fun h => by cases h), (fun h => by cases h), (fun h => by cases h), (fun h => by cases h), (fun h => by cases h), (fun h => by cases h), (fun h => by cases h), (fun h => by cases h), (fun h => by cases h), (fun h => by cases h), (fun h => by cases h), (fun h => by cases h), (fun h => by cases h), (fun h => by cases h), (fun h => by cases h), (fun h => by cases h), (fun h => by cases h), (fun h => by cases h), (fun h => by cases h), (fun h => by cases h), (fun h => by cases h), (fun h => by cases h), (fun h => by cases h), (fun h => by cases h), (fun h => by cases h), (fun h => by cases h)⟩
  · simp only [tl, List.forall_mem_cons, List.not_mem_nil, false_implies, implies_true, and_true]
    exact ⟨(fun fs h => by cases h), (fun fs h => by cases h), (fun fs h => by cases h), (fun fs h => by cases h), (fun fs h => by cases h), (fun fs h => by cases h), (fun fs h => by cases h), (fun fs h => by cases h), (fun fs h => by cases h), (fun fs h => by cases h), (fun fs h => by cases h), (fun fs h => by cases h), (fun fs h => by cases h), (fun fs h => by cases h; rfl), (fun fs h => by cases h; rfl), (fun fs h => by cases h), (fun fs h => by cases h), (fun fs h => by cases h), (fun fs h => by cases h), (fun fs h => by cases h; rfl), (fun fs h => by cases h), (fun fs h => by cases h), (fun fs h => by cases h), (fun fs h => by cases h), (fun fs h => by cases h), (fun fs h => by cases h), (fun fs h => by cases h), (fun fs h => by cases h), (fun fs h => by cases h), (fun fs h => by cases h; rfl), (fun fs h => by cases h; rfl), (fun fs h => by cases h), (fun fs h => by cases h), (fun fs h => by cases h), (fun fs h => by cases h), (fun fs h => by cases h), (fun fs h => by cases h), (fun fs h => by cases h), (fun fs h => by cases h), (fun fs h => by cases h; rfl), (fun fs h => by cases h; rfl), (fun fs h => by cases h), (fun fs h => by cases h; rfl), (fun fs h => by cases h; rfl), (fun fs h => by cases h; rfl), (fun fs h => by cases h; rfl), (fun fs h => by cases h), (fun fs h => by cases h), (fun fs h => by cases h), (fun fs h => by cases h), (fun fs h => by cases h), (fun fs h => by cases h), (fun fs h => by cases h), (fun fs h => by cases h), (fun fs h => by cases h), (fun fs h => by cases h), (fun fs h => by cases h), (fun fs h => by cases h), (fun fs h => by cases h), (fun fs h => by cases h), (fun fs h => by cases h), (fun fs h => by cases h; rfl), (fun fs h => by cases h; rfl), (fun fs h => by cases h), (fun fs h => by cases h), (fun fs h => by cases h), (fun fs h => by cases h), (fun fs h => by cases h), (fun fs h => by cases h), (fun fs h => by cases h), (fun fs h => by cases h; rfl), (fun fs h => by cases h; rfl), (fun fs h => by cases h; rfl), (fun fs h => by cases h; rfl), (fun fs h => by cases h), (fun fs h => by cases h; rfl), (fun fs h => by cases h; rfl), (fun fs h => by cases h), (fun fs h => by cases h), (fun fs h => by cases h), (fun fs h => by cases h), (fun fs h => by cases h), (fun fs h => by cases h), (fun fs h => by cases h), (fun fs h => by cases h), (fun fs h => by cases h), (fun fs h => by cases h; rfl), (fun fs h => by cases h; rfl), (fun fs h => by cases h; rfl), (fun fs h => by cases h; rfl), (fun fs h => by cases h), (fun fs h => by cases h), (fun fs h => by cases h), (fun fs h => by cases h), (fun fs h => by cases h), (fun fs h => by cases h), (fun fs h => by cases h), (fun fs h => by cases h), (fun fs h => by cases h), (fun fs h => by cases h), (fun fs h => by cases h), (fun fs h => by cases h), (fun fs h => by cases h), (fun fs h => by cases h), (fun fs h => by cases h), (fun fs h => by cases h), (fun fs h => by cases h), (fun fs h => by cases h), (fun fs h => by cases h), (fun fs h => by cases h), (fun fs h => by cases h), (fun fs h => by cases h), (fun fs h => by cases h), (fun fs h => by cases h), (fun fs h => by cases h), (fun fs h => by cases h), (fun fs h => by cases h), (fun fs h => by cases h), (fun fs h => by cases h), (fun fs h => by cases h), (fun fs h => by cases h), (fun fs h => by cases h), (fun fs h => by cases h), (fun fs h => by cases h), (fun fs h => by cases h), (fun fs h => by cases h), (fun fs h => by cases h), (fun fs h => by cases h), (fun fs h => by cases h), (fun fs h => by cases h), (fun fs h => by cases h), (fun fs h => by cases h), (fun fs h => by cases h), (fun fs h => by cases h), (fun fs h => by cases h), (fun fs h => by cases h), (fun fs h => by cases h), (fun fs h => by cases h), (fun fs h => by cases h), (fun fs h => by cases h), (fun fs h => by cases h)⟩
end Go.Proofs.Ytakiggekallckaa
