/- Part 10 of what follows is proved here: the layer over the walk. -/
import Derived.Test.YtkhebjkplmidnaaV8
import Derived.Test.YtkhebjkplmidnaaProg
import Derived.Test.YtkhebjkplmidnaaV1
import Derived.KernelRfl
set_option linter.unusedVariables false
set_option linter.unusedSimpArgs false
set_option maxRecDepth 100000
/- The seat's types, as the V layer wants them; each line is checked against the program by the kernel. -/
namespace Go.Proofs.Ytkhebjkplmidnaa
open Go Go.VC

def tl : List (Nat × TI) := [(1, ⟨.other, 1, 8, [.d .nilfn], false⟩),
  (2, ⟨.int .i64, 1, 8, [.d (.int .i64 0)], false⟩),
  (3, ⟨.int .i64, 1, 8, [.d (.int .i64 0)], false⟩),
  (4, ⟨.bool, 1, 1, [.d (.bool false)], false⟩),
  (5, ⟨.int .u8, 1, 1, [.d (.int .u8 0)], false⟩),
  (9, ⟨.str, 1, 16, [.d (.str ⟨#[]⟩)], false⟩),
  (12, ⟨.int .u64, 1, 8, [.d (.int .u64 0)], false⟩),
  (21, ⟨.int .i32, 1, 4, [.d (.int .i32 0)], false⟩),
  (22, ⟨.slice 65, 1, 24, [.nil], false⟩),
  (23, ⟨.slice 3, 1, 24, [.nil], false⟩),
  (24, ⟨.other, 1, 8, [.d .nilfn], false⟩),
  (25, ⟨.other, 1, 8, [.d .nilfn], false⟩),
  (26, ⟨.other, 1, 8, [.d .nilfn], false⟩),
  (27, ⟨.int .i64, 1, 8, [.d (.int .i64 0)], false⟩),
  (29, ⟨.other, 1, 8, [.d .nilfn], false⟩),
  (30, ⟨.other, 1, 8, [.d .nilfn], false⟩),
  (31, ⟨.other, 1, 8, [.d .nilfn], false⟩),
  (32, ⟨.other, 1, 8, [.d .nilfn], false⟩),
  (33, ⟨.slice 43, 1, 24, [.nil], false⟩),
  (34, ⟨.slice 4, 1, 24, [.nil], false⟩),
  (35, ⟨.other, 1, 8, [.d .nilfn], false⟩),
  (37, ⟨.other, 1, 8, [.d .nilfn], false⟩),
  (38, ⟨.other, 1, 8, [.d .nilfn], false⟩),
  (39, ⟨.other, 1, 8, [.d .nilfn], false⟩),
  (40, ⟨.other, 1, 8, [.d .nilfn], false⟩),
  (41, ⟨.slice 23, 1, 24, [.nil], false⟩),
  (42, ⟨.struct [(0, 3), (1, 3)], 2, 16, [.d (.int .i64 0), .d (.int .i64 0)], true⟩),
  (43, ⟨.struct [(0, 3), (1, 3)], 2, 16, [.d (.int .i64 0), .d (.int .i64 0)], true⟩),
  (44, ⟨.other, 1, 8, [.d .nilfn], false⟩),
  (45, ⟨.slice 50, 1, 24, [.nil], false⟩),
  (46, ⟨.other, 1, 8, [.d .nilfn], false⟩),
  (47, ⟨.other, 1, 8, [.d .nilfn], false⟩),
  (48, ⟨.other, 1, 8, [.d .nilfn], false⟩),
  (49, ⟨.struct [(0, 3), (1, 3), (2, 3), (3, 3), (4, 3), (5, 4)], 6, 48, [.d (.int .i64 0), .d (.int .i64 0), .d (.int .i64 0), .d (.int .i64 0), .d (.int .i64 0), .d (.bool false)], true⟩),
  (50, ⟨.struct [(0, 3), (1, 3), (2, 3), (3, 3), (4, 3), (5, 4)], 6, 48, [.d (.int .i64 0), .d (.int .i64 0), .d (.int .i64 0), .d (.int .i64 0), .d (.int .i64 0), .d (.bool false)], true⟩),
  (51, ⟨.other, 1, 8, [.d .nilfn], false⟩),
  (52, ⟨.other, 1, 8, [.d .nilfn], false⟩),
  (53, ⟨.other, 1, 8, [.d .nilfn], false⟩),
  (54, ⟨.other, 1, 8, [.d .nilfn], false⟩),
  (55, ⟨.other, 1, 8, [.d .nilfn], false⟩),
  (56, ⟨.other, 1, 8, [.d .nilfn], false⟩),
  (57, ⟨.other, 1, 8, [.d .nilfn], false⟩),
  (59, ⟨.other, 1, 8, [.d .nilfn], false⟩),
  (60, ⟨.slice 82, 1, 24, [.nil], false⟩),
  (61, ⟨.other, 1, 8, [.d .nilfn], false⟩),
  (62, ⟨.other, 1, 8, [.d .nilfn], false⟩),
  (63, ⟨.slice 73, 1, 24, [.nil], false⟩),
  (64, ⟨.struct [(0, 3), (1, 3), (2, 3), (3, 63)], 4, 48, [.d (.int .i64 0), .d (.int .i64 0), .d (.int .i64 0), .nil], false⟩),
  (65, ⟨.struct [(0, 3), (1, 3), (2, 3), (3, 63)], 4, 48, [.d (.int .i64 0), .d (.int .i64 0), .d (.int .i64 0), .nil], false⟩),
  (66, ⟨.other, 1, 8, [.d .nilfn], false⟩),
  (67, ⟨.other, 1, 8, [.nilptr], false⟩),
  (68, ⟨.struct [(0, 22), (1, 23)], 2, 48, [.nil, .nil], false⟩),
  (69, ⟨.struct [(0, 22), (1, 23)], 2, 48, [.nil, .nil], false⟩),
  (70, ⟨.other, 1, 8, [.d .nilfn], false⟩),
  (71, ⟨.other, 1, 8, [.d .nilfn], false⟩),
  (72, ⟨.struct [(0, 3), (1, 3), (2, 3)], 3, 24, [.d (.int .i64 0), .d (.int .i64 0), .d (.int .i64 0)], true⟩),
  (73, ⟨.struct [(0, 3), (1, 3), (2, 3)], 3, 24, [.d (.int .i64 0), .d (.int .i64 0), .d (.int .i64 0)], true⟩),
  (74, ⟨.other, 1, 8, [.d .nilfn], false⟩),
  (75, ⟨.other, 1, 8, [.d .nilfn], false⟩),
  (76, ⟨.other, 1, 8, [.d .nilfn], false⟩),
  (77, ⟨.other, 1, 8, [.d .nilfn], false⟩),
  (78, ⟨.other, 1, 8, [.d .nilfn], false⟩),
  (79, ⟨.other, 1, 8, [.d .nilfn], false⟩),
  (80, ⟨.other, 1, 8, [.d .nilfn], false⟩),
  (81, ⟨.struct [(0, 4), (1, 3), (2, 3)], 3, 24, [.d (.bool false), .d (.int .i64 0), .d (.int .i64 0)], true⟩),
  (82, ⟨.struct [(0, 4), (1, 3), (2, 3)], 3, 24, [.d (.bool false), .d (.int .i64 0), .d (.int .i64 0)], true⟩),
  (83, ⟨.other, 1, 8, [.d .nilfn], false⟩),
  (84, ⟨.other, 1, 8, [.d .nilfn], false⟩),
  (85, ⟨.other, 1, 8, [.d .nilfn], false⟩),
  (86, ⟨.other, 1, 8, [.d .nilfn], false⟩),
  (87, ⟨.other, 1, 8, [.d .nilfn], false⟩),
  (88, ⟨.other, 1, 8, [.d .nilfn], false⟩),
  (89, ⟨.other, 1, 8, [.d .nilfn], false⟩),
  (90, ⟨.other, 1, 8, [.d .nilfn], false⟩),
  (96, ⟨.other, 1, 8, [.d .nilfn], false⟩),
  (97, ⟨.int .u32, 1, 4, [.d (.int .u32 0)], false⟩),
  (101, ⟨.other, 1, 8, [.nilptr], false⟩)]
def T : TypeId → Option TI := fun t => assoc tl t
theorem T1 : T 1 = some ⟨.other, 1, 8, [.d .nilfn], false⟩ := rfl
theorem T2 : T 2 = some ⟨.int .i64, 1, 8, [.d (.int .i64 0)], false⟩ := rfl
theorem T3 : T 3 = some ⟨.int .i64, 1, 8, [.d (.int .i64 0)], false⟩ := rfl
theorem T4 : T 4 = some ⟨.bool, 1, 1, [.d (.bool false)], false⟩ := rfl
theorem T5 : T 5 = some ⟨.int .u8, 1, 1, [.d (.int .u8 0)], false⟩ := rfl
theorem T9 : T 9 = some ⟨.str, 1, 16, [.d (.str ⟨#[]⟩)], false⟩ := rfl
theorem T12 : T 12 = some ⟨.int .u64, 1, 8, [.d (.int .u64 0)], false⟩ := rfl
theorem T21 : T 21 = some ⟨.int .i32, 1, 4, [.d (.int .i32 0)], false⟩ := rfl
theorem T22 : T 22 = some ⟨.slice 65, 1, 24, [.nil], false⟩ := rfl
theorem T23 : T 23 = some ⟨.slice 3, 1, 24, [.nil], false⟩ := rfl
theorem T24 : T 24 = some ⟨.other, 1, 8, [.d .nilfn], false⟩ := rfl
theorem T25 : T 25 = some ⟨.other, 1, 8, [.d .nilfn], false⟩ := rfl
theorem T26 : T 26 = some ⟨.other, 1, 8, [.d .nilfn], false⟩ := rfl
theorem T27 : T 27 = some ⟨.int .i64, 1, 8, [.d (.int .i64 0)], false⟩ := rfl
theorem T29 : T 29 = some ⟨.other, 1, 8, [.d .nilfn], false⟩ := rfl
theorem T30 : T 30 = some ⟨.other, 1, 8, [.d .nilfn], false⟩ := rfl
theorem T31 : T 31 = some ⟨.other, 1, 8, [.d .nilfn], false⟩ := rfl
theorem T32 : T 32 = some ⟨.other, 1, 8, [.d .nilfn], false⟩ := rfl
theorem T33 : T 33 = some ⟨.slice 43, 1, 24, [.nil], false⟩ := rfl
theorem T34 : T 34 = some ⟨.slice 4, 1, 24, [.nil], false⟩ := rfl
theorem T35 : T 35 = some ⟨.other, 1, 8, [.d .nilfn], false⟩ := rfl
theorem T37 : T 37 = some ⟨.other, 1, 8, [.d .nilfn], false⟩ := rfl
theorem T38 : T 38 = some ⟨.other, 1, 8, [.d .nilfn], false⟩ := rfl
theorem T39 : T 39 = some ⟨.other, 1, 8, [.d .nilfn], false⟩ := rfl
theorem T40 : T 40 = some ⟨.other, 1, 8, [.d .nilfn], false⟩ := rfl
theorem T41 : T 41 = some ⟨.slice 23, 1, 24, [.nil], false⟩ := rfl
theorem T42 : T 42 = some ⟨.struct [(0, 3), (1, 3)], 2, 16, [.d (.int .i64 0), .d (.int .i64 0)], true⟩ := rfl
theorem T43 : T 43 = some ⟨.struct [(0, 3), (1, 3)], 2, 16, [.d (.int .i64 0), .d (.int .i64 0)], true⟩ := rfl
theorem T44 : T 44 = some ⟨.other, 1, 8, [.d .nilfn], false⟩ := rfl
theorem T45 : T 45 = some ⟨.slice 50, 1, 24, [.nil], false⟩ := rfl
theorem T46 : T 46 = some ⟨.other, 1, 8, [.d .nilfn], false⟩ := rfl
theorem T47 : T 47 = some ⟨.other, 1, 8, [.d .nilfn], false⟩ := rfl
theorem T48 : T 48 = some ⟨.other, 1, 8, [.d .nilfn], false⟩ := rfl
theorem T49 : T 49 = some ⟨.struct [(0, 3), (1, 3), (2, 3), (3, 3), (4, 3), (5, 4)], 6, 48, [.d (.int .i64 0), .d (.int .i64 0), .d (.int .i64 0), .d (.int .i64 0), .d (.int .i64 0), .d (.bool false)], true⟩ := rfl
theorem T50 : T 50 = some ⟨.struct [(0, 3), (1, 3), (2, 3), (3, 3), (4, 3), (5, 4)], 6, 48, [.d (.int .i64 0), .d (.int .i64 0), .d (.int .i64 0), .d (.int .i64 0), .d (.int .i64 0), .d (.bool false)], true⟩ := rfl
theorem T51 : T 51 = some ⟨.other, 1, 8, [.d .nilfn], false⟩ := rfl
theorem T52 : T 52 = some ⟨.other, 1, 8, [.d .nilfn], false⟩ := rfl
theorem T53 : T 53 = some ⟨.other, 1, 8, [.d .nilfn], false⟩ := rfl
theorem T54 : T 54 = some ⟨.other, 1, 8, [.d .nilfn], false⟩ := rfl
theorem T55 : T 55 = some ⟨.other, 1, 8, [.d .nilfn], false⟩ := rfl
theorem T56 : T 56 = some ⟨.other, 1, 8, [.d .nilfn], false⟩ := rfl
theorem T57 : T 57 = some ⟨.other, 1, 8, [.d .nilfn], false⟩ := rfl
theorem T59 : T 59 = some ⟨.other, 1, 8, [.d .nilfn], false⟩ := rfl
theorem T60 : T 60 = some ⟨.slice 82, 1, 24, [.nil], false⟩ := rfl
theorem T61 : T 61 = some ⟨.other, 1, 8, [.d .nilfn], false⟩ := rfl
theorem T62 : T 62 = some ⟨.other, 1, 8, [.d .nilfn], false⟩ := rfl
theorem T63 : T 63 = some ⟨.slice 73, 1, 24, [.nil], false⟩ := rfl
theorem T64 : T 64 = some ⟨.struct [(0, 3), (1, 3), (2, 3), (3, 63)], 4, 48, [.d (.int .i64 0), .d (.int .i64 0), .d (.int .i64 0), .nil], false⟩ := rfl
theorem T65 : T 65 = some ⟨.struct [(0, 3), (1, 3), (2, 3), (3, 63)], 4, 48, [.d (.int .i64 0), .d (.int .i64 0), .d (.int .i64 0), .nil], false⟩ := rfl
theorem T66 : T 66 = some ⟨.other, 1, 8, [.d .nilfn], false⟩ := rfl
theorem T67 : T 67 = some ⟨.other, 1, 8, [.nilptr], false⟩ := rfl
theorem T68 : T 68 = some ⟨.struct [(0, 22), (1, 23)], 2, 48, [.nil, .nil], false⟩ := rfl
theorem T69 : T 69 = some ⟨.struct [(0, 22), (1, 23)], 2, 48, [.nil, .nil], false⟩ := rfl
theorem T70 : T 70 = some ⟨.other, 1, 8, [.d .nilfn], false⟩ := rfl
theorem T71 : T 71 = some ⟨.other, 1, 8, [.d .nilfn], false⟩ := rfl
theorem T72 : T 72 = some ⟨.struct [(0, 3), (1, 3), (2, 3)], 3, 24, [.d (.int .i64 0), .d (.int .i64 0), .d (.int .i64 0)], true⟩ := rfl
theorem T73 : T 73 = some ⟨.struct [(0, 3), (1, 3), (2, 3)], 3, 24, [.d (.int .i64 0), .d (.int .i64 0), .d (.int .i64 0)], true⟩ := rfl
theorem T74 : T 74 = some ⟨.other, 1, 8, [.d .nilfn], false⟩ := rfl
theorem T75 : T 75 = some ⟨.other, 1, 8, [.d .nilfn], false⟩ := rfl
theorem T76 : T 76 = some ⟨.other, 1, 8, [.d .nilfn], false⟩ := rfl
theorem T77 : T 77 = some ⟨.other, 1, 8, [.d .nilfn], false⟩ := rfl
theorem T78 : T 78 = some ⟨.other, 1, 8, [.d .nilfn], false⟩ := rfl
theorem T79 : T 79 = some ⟨.other, 1, 8, [.d .nilfn], false⟩ := rfl
theorem T80 : T 80 = some ⟨.other, 1, 8, [.d .nilfn], false⟩ := rfl
theorem T81 : T 81 = some ⟨.struct [(0, 4), (1, 3), (2, 3)], 3, 24, [.d (.bool false), .d (.int .i64 0), .d (.int .i64 0)], true⟩ := rfl
theorem T82 : T 82 = some ⟨.struct [(0, 4), (1, 3), (2, 3)], 3, 24, [.d (.bool false), .d (.int .i64 0), .d (.int .i64 0)], true⟩ := rfl
theorem T83 : T 83 = some ⟨.other, 1, 8, [.d .nilfn], false⟩ := rfl
theorem T84 : T 84 = some ⟨.other, 1, 8, [.d .nilfn], false⟩ := rfl
theorem T85 : T 85 = some ⟨.other, 1, 8, [.d .nilfn], false⟩ := rfl
theorem T86 : T 86 = some ⟨.other, 1, 8, [.d .nilfn], false⟩ := rfl
theorem T87 : T 87 = some ⟨.other, 1, 8, [.d .nilfn], false⟩ := rfl
theorem T88 : T 88 = some ⟨.other, 1, 8, [.d .nilfn], false⟩ := rfl
theorem T89 : T 89 = some ⟨.other, 1, 8, [.d .nilfn], false⟩ := rfl
theorem T90 : T 90 = some ⟨.other, 1, 8, [.d .nilfn], false⟩ := rfl
theorem T96 : T 96 = some ⟨.other, 1, 8, [.d .nilfn], false⟩ := rfl
theorem T97 : T 97 = some ⟨.int .u32, 1, 4, [.d (.int .u32 0)], false⟩ := rfl
theorem T101 : T 101 = some ⟨.other, 1, 8, [.nilptr], false⟩ := rfl
theorem ok1 : TIok Try.prog 1 ⟨.other, 1, 8, [.d .nilfn], false⟩ := TIok.of (.nilFunc) Try.underlying1 (rfl) (by kernel_rfl) rfl rfl rfl
theorem ok2 : TIok Try.prog 2 ⟨.int .i64, 1, 8, [.d (.int .i64 0)], false⟩ := TIok.of (.int .i64 0) Try.underlying2 (rfl) (by kernel_rfl) rfl rfl rfl
theorem ok3 : TIok Try.prog 3 ⟨.int .i64, 1, 8, [.d (.int .i64 0)], false⟩ := TIok.of (.int .i64 0) Try.underlying3 (rfl) (by kernel_rfl) rfl rfl rfl
theorem ok4 : TIok Try.prog 4 ⟨.bool, 1, 1, [.d (.bool false)], false⟩ := TIok.of (.bool false) Try.underlying4 (rfl) (by kernel_rfl) rfl rfl rfl
theorem ok5 : TIok Try.prog 5 ⟨.int .u8, 1, 1, [.d (.int .u8 0)], false⟩ := TIok.of (.int .u8 0) Try.underlying5 (rfl) (by kernel_rfl) rfl rfl rfl
theorem ok9 : TIok Try.prog 9 ⟨.str, 1, 16, [.d (.str ⟨#[]⟩)], false⟩ := TIok.of (.string ⟨#[]⟩) Try.underlying9 (rfl) (by kernel_rfl) rfl rfl rfl
theorem ok12 : TIok Try.prog 12 ⟨.int .u64, 1, 8, [.d (.int .u64 0)], false⟩ := TIok.of (.int .u64 0) Try.underlying12 (rfl) (by kernel_rfl) rfl rfl rfl
theorem ok21 : TIok Try.prog 21 ⟨.int .i32, 1, 4, [.d (.int .i32 0)], false⟩ := TIok.of (.int .i32 0) Try.underlying21 (rfl) (by kernel_rfl) rfl rfl rfl
theorem ok22 : TIok Try.prog 22 ⟨.slice 65, 1, 24, [.nil], false⟩ := TIok.of (.slice none 0 0) Try.underlying22 (rfl) (by kernel_rfl) rfl rfl rfl
theorem ok23 : TIok Try.prog 23 ⟨.slice 3, 1, 24, [.nil], false⟩ := TIok.of (.slice none 0 0) Try.underlying23 (rfl) (by kernel_rfl) rfl rfl rfl
theorem ok24 : TIok Try.prog 24 ⟨.other, 1, 8, [.d .nilfn], false⟩ := TIok.of (.nilFunc) Try.underlying24 (rfl) (by kernel_rfl) rfl rfl rfl
theorem ok25 : TIok Try.prog 25 ⟨.other, 1, 8, [.d .nilfn], false⟩ := TIok.of (.nilFunc) Try.underlying25 (rfl) (by kernel_rfl) rfl rfl rfl
theorem ok26 : TIok Try.prog 26 ⟨.other, 1, 8, [.d .nilfn], false⟩ := TIok.of (.nilFunc) Try.underlying26 (rfl) (by kernel_rfl) rfl rfl rfl
theorem ok27 : TIok Try.prog 27 ⟨.int .i64, 1, 8, [.d (.int .i64 0)], false⟩ := TIok.of (.int .i64 0) Try.underlying27 (rfl) (by kernel_rfl) rfl rfl rfl
theorem ok29 : TIok Try.prog 29 ⟨.other, 1, 8, [.d .nilfn], false⟩ := TIok.of (.nilFunc) Try.underlying29 (rfl) (by kernel_rfl) rfl rfl rfl
theorem ok30 : TIok Try.prog 30 ⟨.other, 1, 8, [.d .nilfn], false⟩ := TIok.of (.nilFunc) Try.underlying30 (rfl) (by kernel_rfl) rfl rfl rfl
theorem ok31 : TIok Try.prog 31 ⟨.other, 1, 8, [.d .nilfn], false⟩ := TIok.of (.nilFunc) Try.underlying31 (rfl) (by kernel_rfl) rfl rfl rfl
theorem ok32 : TIok Try.prog 32 ⟨.other, 1, 8, [.d .nilfn], false⟩ := TIok.of (.nilFunc) Try.underlying32 (rfl) (by kernel_rfl) rfl rfl rfl
theorem ok33 : TIok Try.prog 33 ⟨.slice 43, 1, 24, [.nil], false⟩ := TIok.of (.slice none 0 0) Try.underlying33 (rfl) (by kernel_rfl) rfl rfl rfl
theorem ok34 : TIok Try.prog 34 ⟨.slice 4, 1, 24, [.nil], false⟩ := TIok.of (.slice none 0 0) Try.underlying34 (rfl) (by kernel_rfl) rfl rfl rfl
theorem ok35 : TIok Try.prog 35 ⟨.other, 1, 8, [.d .nilfn], false⟩ := TIok.of (.nilFunc) Try.underlying35 (rfl) (by kernel_rfl) rfl rfl rfl
theorem ok37 : TIok Try.prog 37 ⟨.other, 1, 8, [.d .nilfn], false⟩ := TIok.of (.nilFunc) Try.underlying37 (rfl) (by kernel_rfl) rfl rfl rfl
theorem ok38 : TIok Try.prog 38 ⟨.other, 1, 8, [.d .nilfn], false⟩ := TIok.of (.nilFunc) Try.underlying38 (rfl) (by kernel_rfl) rfl rfl rfl
theorem ok39 : TIok Try.prog 39 ⟨.other, 1, 8, [.d .nilfn], false⟩ := TIok.of (.nilFunc) Try.underlying39 (rfl) (by kernel_rfl) rfl rfl rfl
theorem ok40 : TIok Try.prog 40 ⟨.other, 1, 8, [.d .nilfn], false⟩ := TIok.of (.nilFunc) Try.underlying40 (rfl) (by kernel_rfl) rfl rfl rfl
theorem ok41 : TIok Try.prog 41 ⟨.slice 23, 1, 24, [.nil], false⟩ := TIok.of (.slice none 0 0) Try.underlying41 (rfl) (by kernel_rfl) rfl rfl rfl
theorem ok42 : TIok Try.prog 42 ⟨.struct [(0, 3), (1, 3)], 2, 16, [.d (.int .i64 0), .d (.int .i64 0)], true⟩ := TIok.of (.agg #[.int .i64 0, .int .i64 0]) Try.underlying42 (fields_of rfl) (by kernel_rfl) rfl rfl rfl
theorem ok43 : TIok Try.prog 43 ⟨.struct [(0, 3), (1, 3)], 2, 16, [.d (.int .i64 0), .d (.int .i64 0)], true⟩ := TIok.of (.agg #[.int .i64 0, .int .i64 0]) Try.underlying43 (fields_of rfl) (by kernel_rfl) rfl rfl rfl
theorem ok44 : TIok Try.prog 44 ⟨.other, 1, 8, [.d .nilfn], false⟩ := TIok.of (.nilFunc) Try.underlying44 (rfl) (by kernel_rfl) rfl rfl rfl
theorem ok45 : TIok Try.prog 45 ⟨.slice 50, 1, 24, [.nil], false⟩ := TIok.of (.slice none 0 0) Try.underlying45 (rfl) (by kernel_rfl) rfl rfl rfl
theorem ok46 : TIok Try.prog 46 ⟨.other, 1, 8, [.d .nilfn], false⟩ := TIok.of (.nilFunc) Try.underlying46 (rfl) (by kernel_rfl) rfl rfl rfl
theorem ok47 : TIok Try.prog 47 ⟨.other, 1, 8, [.d .nilfn], false⟩ := TIok.of (.nilFunc) Try.underlying47 (rfl) (by kernel_rfl) rfl rfl rfl
theorem ok48 : TIok Try.prog 48 ⟨.other, 1, 8, [.d .nilfn], false⟩ := TIok.of (.nilFunc) Try.underlying48 (rfl) (by kernel_rfl) rfl rfl rfl
theorem ok49 : TIok Try.prog 49 ⟨.struct [(0, 3), (1, 3), (2, 3), (3, 3), (4, 3), (5, 4)], 6, 48, [.d (.int .i64 0), .d (.int .i64 0), .d (.int .i64 0), .d (.int .i64 0), .d (.int .i64 0), .d (.bool false)], true⟩ := TIok.of (.agg #[.int .i64 0, .int .i64 0, .int .i64 0, .int .i64 0, .int .i64 0, .bool false]) Try.underlying49 (fields_of rfl) (by kernel_rfl) rfl rfl rfl
theorem ok50 : TIok Try.prog 50 ⟨.struct [(0, 3), (1, 3), (2, 3), (3, 3), (4, 3), (5, 4)], 6, 48, [.d (.int .i64 0), .d (.int .i64 0), .d (.int .i64 0), .d (.int .i64 0), .d (.int .i64 0), .d (.bool false)], true⟩ := TIok.of (.agg #[.int .i64 0, .int .i64 0, .int .i64 0, .int .i64 0, .int .i64 0, .bool false]) Try.underlying50 (fields_of rfl) (by kernel_rfl) rfl rfl rfl
theorem ok51 : TIok Try.prog 51 ⟨.other, 1, 8, [.d .nilfn], false⟩ := TIok.of (.nilFunc) Try.underlying51 (rfl) (by kernel_rfl) rfl rfl rfl
theorem ok52 : TIok Try.prog 52 ⟨.other, 1, 8, [.d .nilfn], false⟩ := TIok.of (.nilFunc) Try.underlying52 (rfl) (by kernel_rfl) rfl rfl rfl
theorem ok53 : TIok Try.prog 53 ⟨.other, 1, 8, [.d .nilfn], false⟩ := TIok.of (.nilFunc) Try.underlying53 (rfl) (by kernel_rfl) rfl rfl rfl
theorem ok54 : TIok Try.prog 54 ⟨.other, 1, 8, [.d .nilfn], false⟩ := TIok.of (.nilFunc) Try.underlying54 (rfl) (by kernel_rfl) rfl rfl rfl
theorem ok55 : TIok Try.prog 55 ⟨.other, 1, 8, [.d .nilfn], false⟩ := TIok.of (.nilFunc) Try.underlying55 (rfl) (by kernel_rfl) rfl rfl rfl
theorem ok56 : TIok Try.prog 56 ⟨.other, 1, 8, [.d .nilfn], false⟩ := TIok.of (.nilFunc) Try.underlying56 (rfl) (by kernel_rfl) rfl rfl rfl
theorem ok57 : TIok Try.prog 57 ⟨.other, 1, 8, [.d .nilfn], false⟩ := TIok.of (.nilFunc) Try.underlying57 (rfl) (by kernel_rfl) rfl rfl rfl
theorem ok59 : TIok Try.prog 59 ⟨.other, 1, 8, [.d .nilfn], false⟩ := TIok.of (.nilFunc) Try.underlying59 (rfl) (by kernel_rfl) rfl rfl rfl
theorem ok60 : TIok Try.prog 60 ⟨.slice 82, 1, 24, [.nil], false⟩ := TIok.of (.slice none 0 0) Try.underlying60 (rfl) (by kernel_rfl) rfl rfl rfl
theorem ok61 : TIok Try.prog 61 ⟨.other, 1, 8, [.d .nilfn], false⟩ := TIok.of (.nilFunc) Try.underlying61 (rfl) (by kernel_rfl) rfl rfl rfl
theorem ok62 : TIok Try.prog 62 ⟨.other, 1, 8, [.d .nilfn], false⟩ := TIok.of (.nilFunc) Try.underlying62 (rfl) (by kernel_rfl) rfl rfl rfl
theorem ok63 : TIok Try.prog 63 ⟨.slice 73, 1, 24, [.nil], false⟩ := TIok.of (.slice none 0 0) Try.underlying63 (rfl) (by kernel_rfl) rfl rfl rfl
theorem ok64 : TIok Try.prog 64 ⟨.struct [(0, 3), (1, 3), (2, 3), (3, 63)], 4, 48, [.d (.int .i64 0), .d (.int .i64 0), .d (.int .i64 0), .nil], false⟩ := TIok.of (.agg #[.int .i64 0, .int .i64 0, .int .i64 0, .slice none 0 0]) Try.underlying64 (fields_of rfl) (by kernel_rfl) rfl rfl rfl
theorem ok65 : TIok Try.prog 65 ⟨.struct [(0, 3), (1, 3), (2, 3), (3, 63)], 4, 48, [.d (.int .i64 0), .d (.int .i64 0), .d (.int .i64 0), .nil], false⟩ := TIok.of (.agg #[.int .i64 0, .int .i64 0, .int .i64 0, .slice none 0 0]) Try.underlying65 (fields_of rfl) (by kernel_rfl) rfl rfl rfl
theorem ok66 : TIok Try.prog 66 ⟨.other, 1, 8, [.d .nilfn], false⟩ := TIok.of (.nilFunc) Try.underlying66 (rfl) (by kernel_rfl) rfl rfl rfl
theorem ok67 : TIok Try.prog 67 ⟨.other, 1, 8, [.nilptr], false⟩ := TIok.of (.pointer none) Try.underlying67 (rfl) (by kernel_rfl) rfl rfl rfl
theorem ok68 : TIok Try.prog 68 ⟨.struct [(0, 22), (1, 23)], 2, 48, [.nil, .nil], false⟩ := TIok.of (.agg #[.slice none 0 0, .slice none 0 0]) Try.underlying68 (fields_of rfl) (by kernel_rfl) rfl rfl rfl
theorem ok69 : TIok Try.prog 69 ⟨.struct [(0, 22), (1, 23)], 2, 48, [.nil, .nil], false⟩ := TIok.of (.agg #[.slice none 0 0, .slice none 0 0]) Try.underlying69 (fields_of rfl) (by kernel_rfl) rfl rfl rfl
theorem ok70 : TIok Try.prog 70 ⟨.other, 1, 8, [.d .nilfn], false⟩ := TIok.of (.nilFunc) Try.underlying70 (rfl) (by kernel_rfl) rfl rfl rfl
theorem ok71 : TIok Try.prog 71 ⟨.other, 1, 8, [.d .nilfn], false⟩ := TIok.of (.nilFunc) Try.underlying71 (rfl) (by kernel_rfl) rfl rfl rfl
theorem ok72 : TIok Try.prog 72 ⟨.struct [(0, 3), (1, 3), (2, 3)], 3, 24, [.d (.int .i64 0), .d (.int .i64 0), .d (.int .i64 0)], true⟩ := TIok.of (.agg #[.int .i64 0, .int .i64 0, .int .i64 0]) Try.underlying72 (fields_of rfl) (by kernel_rfl) rfl rfl rfl
theorem ok73 : TIok Try.prog 73 ⟨.struct [(0, 3), (1, 3), (2, 3)], 3, 24, [.d (.int .i64 0), .d (.int .i64 0), .d (.int .i64 0)], true⟩ := TIok.of (.agg #[.int .i64 0, .int .i64 0, .int .i64 0]) Try.underlying73 (fields_of rfl) (by kernel_rfl) rfl rfl rfl
theorem ok74 : TIok Try.prog 74 ⟨.other, 1, 8, [.d .nilfn], false⟩ := TIok.of (.nilFunc) Try.underlying74 (rfl) (by kernel_rfl) rfl rfl rfl
theorem ok75 : TIok Try.prog 75 ⟨.other, 1, 8, [.d .nilfn], false⟩ := TIok.of (.nilFunc) Try.underlying75 (rfl) (by kernel_rfl) rfl rfl rfl
theorem ok76 : TIok Try.prog 76 ⟨.other, 1, 8, [.d .nilfn], false⟩ := TIok.of (.nilFunc) Try.underlying76 (rfl) (by kernel_rfl) rfl rfl rfl
theorem ok77 : TIok Try.prog 77 ⟨.other, 1, 8, [.d .nilfn], false⟩ := TIok.of (.nilFunc) Try.underlying77 (rfl) (by kernel_rfl) rfl rfl rfl
theorem ok78 : TIok Try.prog 78 ⟨.other, 1, 8, [.d .nilfn], false⟩ := TIok.of (.nilFunc) Try.underlying78 (rfl) (by kernel_rfl) rfl rfl rfl
theorem ok79 : TIok Try.prog 79 ⟨.other, 1, 8, [.d .nilfn], false⟩ := TIok.of (.nilFunc) Try.underlying79 (rfl) (by kernel_rfl) rfl rfl rfl
theorem ok80 : TIok Try.prog 80 ⟨.other, 1, 8, [.d .nilfn], false⟩ := TIok.of (.nilFunc) Try.underlying80 (rfl) (by kernel_rfl) rfl rfl rfl
theorem ok81 : TIok Try.prog 81 ⟨.struct [(0, 4), (1, 3), (2, 3)], 3, 24, [.d (.bool false), .d (.int .i64 0), .d (.int .i64 0)], true⟩ := TIok.of (.agg #[.bool false, .int .i64 0, .int .i64 0]) Try.underlying81 (fields_of rfl) (by kernel_rfl) rfl rfl rfl
theorem ok82 : TIok Try.prog 82 ⟨.struct [(0, 4), (1, 3), (2, 3)], 3, 24, [.d (.bool false), .d (.int .i64 0), .d (.int .i64 0)], true⟩ := TIok.of (.agg #[.bool false, .int .i64 0, .int .i64 0]) Try.underlying82 (fields_of rfl) (by kernel_rfl) rfl rfl rfl
theorem ok83 : TIok Try.prog 83 ⟨.other, 1, 8, [.d .nilfn], false⟩ := TIok.of (.nilFunc) Try.underlying83 (rfl) (by kernel_rfl) rfl rfl rfl
theorem ok84 : TIok Try.prog 84 ⟨.other, 1, 8, [.d .nilfn], false⟩ := TIok.of (.nilFunc) Try.underlying84 (rfl) (by kernel_rfl) rfl rfl rfl
theorem ok85 : TIok Try.prog 85 ⟨.other, 1, 8, [.d .nilfn], false⟩ := TIok.of (.nilFunc) Try.underlying85 (rfl) (by kernel_rfl) rfl rfl rfl
theorem ok86 : TIok Try.prog 86 ⟨.other, 1, 8, [.d .nilfn], false⟩ := TIok.of (.nilFunc) Try.underlying86 (rfl) (by kernel_rfl) rfl rfl rfl
theorem ok87 : TIok Try.prog 87 ⟨.other, 1, 8, [.d .nilfn], false⟩ := TIok.of (.nilFunc) Try.underlying87 (rfl) (by kernel_rfl) rfl rfl rfl
theorem ok88 : TIok Try.prog 88 ⟨.other, 1, 8, [.d .nilfn], false⟩ := TIok.of (.nilFunc) Try.underlying88 (rfl) (by kernel_rfl) rfl rfl rfl
theorem ok89 : TIok Try.prog 89 ⟨.other, 1, 8, [.d .nilfn], false⟩ := TIok.of (.nilFunc) Try.underlying89 (rfl) (by kernel_rfl) rfl rfl rfl
theorem ok90 : TIok Try.prog 90 ⟨.other, 1, 8, [.d .nilfn], false⟩ := TIok.of (.nilFunc) Try.underlying90 (rfl) (by kernel_rfl) rfl rfl rfl
theorem ok96 : TIok Try.prog 96 ⟨.other, 1, 8, [.d .nilfn], false⟩ := TIok.of (.nilFunc) Try.underlying96 (rfl) (by kernel_rfl) rfl rfl rfl
theorem ok97 : TIok Try.prog 97 ⟨.int .u32, 1, 4, [.d (.int .u32 0)], false⟩ := TIok.of (.int .u32 0) Try.underlying97 (rfl) (by kernel_rfl) rfl rfl rfl
theorem ok101 : TIok Try.prog 101 ⟨.other, 1, 8, [.nilptr], false⟩ := TIok.of (.pointer none) Try.underlying101 (rfl) (by kernel_rfl) rfl rfl rfl
theorem eq42 : EqTells Try.prog 42 [some .i64, some .i64] := eqTells_of (F := _) Try.underlying42 (by kernel_rfl) (by kernel_rfl) (fun i f h => by
  rcases i with _ | i
  · cases h; exact ⟨by decide, rfl, _, rfl, Try.underlying3⟩
  rcases i with _ | i
  · cases h; exact ⟨by decide, rfl, _, rfl, Try.underlying3⟩
  simp at h) rfl
theorem eq43 : EqTells Try.prog 43 [some .i64, some .i64] := eqTells_of (F := _) Try.underlying43 (by kernel_rfl) (by kernel_rfl) (fun i f h => by
  rcases i with _ | i
  · cases h; exact ⟨by decide, rfl, _, rfl, Try.underlying3⟩
  rcases i with _ | i
  · cases h; exact ⟨by decide, rfl, _, rfl, Try.underlying3⟩
  simp at h) rfl
theorem eq49 : EqTells Try.prog 49 [some .i64, some .i64, some .i64, some .i64, some .i64, none] := eqTells_of (F := _) Try.underlying49 (by kernel_rfl) (by kernel_rfl) (fun i f h => by
  rcases i with _ | i
  · cases h; exact ⟨by decide, rfl, _, rfl, Try.underlying3⟩
  rcases i with _ | i
  · cases h; exact ⟨by decide, rfl, _, rfl, Try.underlying3⟩
  rcases i with _ | i
  · cases h; exact ⟨by decide, rfl, _, rfl, Try.underlying3⟩
  rcases i with _ | i
  · cases h; exact ⟨by decide, rfl, _, rfl, Try.underlying3⟩
  rcases i with _ | i
  · cases h; exact ⟨by decide, rfl, _, rfl, Try.underlying3⟩
  rcases i with _ | i
  · cases h; exact ⟨by decide, rfl, _, rfl, Try.underlying4⟩
  simp at h) rfl
theorem eq50 : EqTells Try.prog 50 [some .i64, some .i64, some .i64, some .i64, some .i64, none] := eqTells_of (F := _) Try.underlying50 (by kernel_rfl) (by kernel_rfl) (fun i f h => by
  rcases i with _ | i
  · cases h; exact ⟨by decide, rfl, _, rfl, Try.underlying3⟩
  rcases i with _ | i
  · cases h; exact ⟨by decide, rfl, _, rfl, Try.underlying3⟩
  rcases i with _ | i
  · cases h; exact ⟨by decide, rfl, _, rfl, Try.underlying3⟩
  rcases i with _ | i
  · cases h; exact ⟨by decide, rfl, _, rfl, Try.underlying3⟩
  rcases i with _ | i
  · cases h; exact ⟨by decide, rfl, _, rfl, Try.underlying3⟩
  rcases i with _ | i
  · cases h; exact ⟨by decide, rfl, _, rfl, Try.underlying4⟩
  simp at h) rfl
theorem eq72 : EqTells Try.prog 72 [some .i64, some .i64, some .i64] := eqTells_of (F := _) Try.underlying72 (by kernel_rfl) (by kernel_rfl) (fun i f h => by
  rcases i with _ | i
  · cases h; exact ⟨by decide, rfl, _, rfl, Try.underlying3⟩
  rcases i with _ | i
  · cases h; exact ⟨by decide, rfl, _, rfl, Try.underlying3⟩
  rcases i with _ | i
  · cases h; exact ⟨by decide, rfl, _, rfl, Try.underlying3⟩
  simp at h) rfl
theorem eq73 : EqTells Try.prog 73 [some .i64, some .i64, some .i64] := eqTells_of (F := _) Try.underlying73 (by kernel_rfl) (by kernel_rfl) (fun i f h => by
  rcases i with _ | i
  · cases h; exact ⟨by decide, rfl, _, rfl, Try.underlying3⟩
  rcases i with _ | i
  · cases h; exact ⟨by decide, rfl, _, rfl, Try.underlying3⟩
  rcases i with _ | i
  · cases h; exact ⟨by decide, rfl, _, rfl, Try.underlying3⟩
  simp at h) rfl
theorem eq81 : EqTells Try.prog 81 [none, some .i64, some .i64] := eqTells_of (F := _) Try.underlying81 (by kernel_rfl) (by kernel_rfl) (fun i f h => by
  rcases i with _ | i
  · cases h; exact ⟨by decide, rfl, _, rfl, Try.underlying4⟩
  rcases i with _ | i
  · cases h; exact ⟨by decide, rfl, _, rfl, Try.underlying3⟩
  rcases i with _ | i
  · cases h; exact ⟨by decide, rfl, _, rfl, Try.underlying3⟩
  simp at h) rfl
theorem eq82 : EqTells Try.prog 82 [none, some .i64, some .i64] := eqTells_of (F := _) Try.underlying82 (by kernel_rfl) (by kernel_rfl) (fun i f h => by
  rcases i with _ | i
  · cases h; exact ⟨by decide, rfl, _, rfl, Try.underlying4⟩
  rcases i with _ | i
  · cases h; exact ⟨by decide, rfl, _, rfl, Try.underlying3⟩
  rcases i with _ | i
  · cases h; exact ⟨by decide, rfl, _, rfl, Try.underlying3⟩
  simp at h) rfl
theorem tab : TabOk Try.prog T := by
  refine TabOk.of (by kernel_rfl) (assoc_all (l := tl) (Q := fun t i => TIok Try.prog t i) ?_) (assoc_all (l := tl) (Q := fun t i => i.eq = true → ∀ ks, i.kds = some ks → EqTells Try.prog t ks) ?_) (fun t i fs h hk => assoc_all (l := tl) (Q := fun _ i => ∀ fs, i.k = .struct fs → fs.all (fun x => (T x.2).isSome) = true) ?_ t i h fs hk)
  · simp only [tl, List.forall_mem_cons, List.not_mem_nil, false_implies, implies_true, and_true]
    exact ⟨ok1, ok2, ok3, ok4, ok5, ok9, ok12, ok21, ok22, ok23, ok24, ok25, ok26, ok27, ok29, ok30, ok31, ok32, ok33, ok34, ok35, ok37, ok38, ok39, ok40, ok41, ok42, ok43, ok44, ok45, ok46, ok47, ok48, ok49, ok50, ok51, ok52, ok53, ok54, ok55, ok56, ok57, ok59, ok60, ok61, ok62, ok63, ok64, ok65, ok66, ok67, ok68, ok69, ok70, ok71, ok72, ok73, ok74, ok75, ok76, ok77, ok78, ok79, ok80, ok81, ok82, ok83, ok84, ok85, ok86, ok87, ok88, ok89, ok90, ok96, ok97, ok101⟩
  · simp only [tl, List.forall_mem_cons, List.not_mem_nil, false_implies, implies_true, and_true]
    exact ⟨(fun h => by cases h), (fun h => by cases h), (fun h => by cases h), (fun h => by cases h), (fun h => by cases h), (fun h => by cases h), (fun h => by cases h), (fun h => by cases h), (fun h => by cases h), (fun h => by cases h), (fun h => by cases h), (fun h => by cases h), (fun h => by cases h), (fun h => by cases h), (fun h => by cases h), (fun h => by cases h), (fun h => by cases h), (fun h => by cases h), (fun h => by cases h), (fun h => by cases h), (fun h => by cases h), (fun h => by cases h), (fun h => by cases h), (fun h => by cases h), (fun h => by cases h), (fun h => by cases h), (fun _ ks h => by cases h; exact eq42), (fun _ ks h => by cases h; exact eq43), (fun h => by cases h), (fun h => by cases h), (fun h => by cases h), (fun h => by cases h), (fun h => by cases h), (fun _ ks h => by cases h; exact eq49), (fun _ ks h => by cases h; exact eq50), (fun h => by cases h), (fun h => by cases h), (fun h => by cases h), (fun h => by cases h), (fun h => by cases h), (fun h => by cases h), (fun h => by cases h), (fun h => by cases h), (fun h => by cases h), (fun h => by cases h), (fun h => by cases h), (fun h => by cases h), (fun h => by cases h), (fun h => by cases h), (fun h => by cases h), (fun h => by cases h), (fun h => by cases h), (fun h => by cases h), (fun h => by cases h), (fun h => by cases h), (fun _ ks h => by cases h; exact eq72), (fun _ ks h => by cases h; exact eq73), (fun h => by cases h), (fun h => by cases h), (fun h => by cases h), (fun h => by cases h), (fun h => by cases h), (fun h => by cases h), (fun h => by cases h), (fun _ ks h => by cases h; exact eq81), (fun _ ks h => by cases h; exact eq82), (fun h => by cases h), (fun h => by cases h), (fun h => by cases h), (fun h => by cases h), (fun h => by cases h), (fun h => by cases h), (fun h => by cases h), (fun h => by cases h), (fun h => by cases h), (fun h => by cases h), (fun h => by cases h)⟩
  · simp only [tl, List.forall_mem_cons, List.not_mem_nil, false_implies, implies_true, and_true]
    exact ⟨(fun fs h => by cases h), (fun fs h => by cases h), (fun fs h => by cases h), (fun fs h => by cases h), (fun fs h => by cases h), (fun fs h => by cases h), (fun fs h => by cases h), (fun fs h => by cases h), (fun fs h => by cases h), (fun fs h => by cases h), (fun fs h => by cases h), (fun fs h => by cases h), (fun fs h => by cases h), (fun fs h => by cases h), (fun fs h => by cases h), (fun fs h => by cases h), (fun fs h => by cases h), (fun fs h => by cases h), (fun fs h => by cases h), (fun fs h => by cases h), (fun fs h => by cases h), (fun fs h => by cases h), (fun fs h => by cases h), (fun fs h => by cases h), (fun fs h => by cases h), (fun fs h => by cases h), (fun fs h => by cases h; rfl), (fun fs h => by cases h; rfl), (fun fs h => by cases h), (fun fs h => by cases h), (fun fs h => by cases h), (fun fs h => by cases h), (fun fs h => by cases h), (fun fs h => by cases h; rfl), (fun fs h => by cases h; rfl), (fun fs h => by cases h), (fun fs h => by cases h), (fun fs h => by cases h), (fun fs h => by cases h), (fun fs h => by cases h), (fun fs h => by cases h), (fun fs h => by cases h), (fun fs h => by cases h), (fun fs h => by cases h), (fun fs h => by cases h), (fun fs h => by cases h), (fun fs h => by cases h), (fun fs h => by cases h; rfl), (fun fs h => by cases h; rfl), (fun fs h => by cases h), (fun fs h => by cases h), (fun fs h => by cases h; rfl), (fun fs h => by cases h; rfl), (fun fs h => by cases h), (fun fs h => by cases h), (fun fs h => by cases h; rfl), (fun fs h => by cases h; rfl), (fun fs h => by cases h), (fun fs h => by cases h), (fun fs h => by cases h), (fun fs h => by cases h), (fun fs h => by cases h), (fun fs h => by cases h), (fun fs h => by cases h), (fun fs h => by cases h; rfl), (fun fs h => by cases h; rfl), (fun fs h => by cases h), (fun fs h => by cases h), (fun fs h => by cases h), (fun fs h => by cases h), (fun fs h => by cases h), (fun fs h => by cases h), (fun fs h => by cases h), (fun fs h => by cases h), (fun fs h => by cases h), (fun fs h => by cases h), (fun fs h => by cases h)⟩
end Go.Proofs.Ytkhebjkplmidnaa
