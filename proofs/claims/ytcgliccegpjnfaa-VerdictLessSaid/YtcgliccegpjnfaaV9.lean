/- Part 10 of what follows is proved here: the layer over the walk. -/
import Derived.Test.YtcgliccegpjnfaaV8
import Derived.Test.YtcgliccegpjnfaaProg
import Derived.Test.YtcgliccegpjnfaaV1
import Derived.KernelRfl
set_option linter.unusedVariables false
set_option linter.unusedSimpArgs false
set_option maxRecDepth 100000
/- The seat's types, as the V layer wants them; each line is checked against the program by the kernel. -/
namespace Go.Proofs.Ytcgliccegpjnfaa
open Go Go.VC

def tl : List (Nat × TI) := [(1, ⟨.other, 1, 8, [.d .nilfn], false⟩),
  (2, ⟨.int .i64, 1, 8, [.d (.int .i64 0)], false⟩),
  (3, ⟨.int .i64, 1, 8, [.d (.int .i64 0)], false⟩),
  (4, ⟨.bool, 1, 1, [.d (.bool false)], false⟩),
  (5, ⟨.int .u8, 1, 1, [.d (.int .u8 0)], false⟩),
  (9, ⟨.str, 1, 16, [.d (.str ⟨#[]⟩)], false⟩),
  (12, ⟨.int .u64, 1, 8, [.d (.int .u64 0)], false⟩),
  (21, ⟨.int .i32, 1, 4, [.d (.int .i32 0)], false⟩),
  (22, ⟨.slice 32, 1, 24, [.nil], false⟩),
  (23, ⟨.other, 1, 8, [.d .nilfn], false⟩),
  (24, ⟨.other, 1, 8, [.d .nilfn], false⟩),
  (25, ⟨.int .i64, 1, 8, [.d (.int .i64 0)], false⟩),
  (27, ⟨.other, 1, 8, [.d .nilfn], false⟩),
  (28, ⟨.other, 1, 8, [.d .nilfn], false⟩),
  (29, ⟨.other, 1, 8, [.d .nilfn], false⟩),
  (30, ⟨.slice 70, 1, 24, [.nil], false⟩),
  (31, ⟨.struct [(0, 3), (1, 3), (2, 3), (3, 30)], 4, 48, [.d (.int .i64 0), .d (.int .i64 0), .d (.int .i64 0), .nil], false⟩),
  (32, ⟨.struct [(0, 3), (1, 3), (2, 3), (3, 30)], 4, 48, [.d (.int .i64 0), .d (.int .i64 0), .d (.int .i64 0), .nil], false⟩),
  (33, ⟨.other, 1, 8, [.d .nilfn], false⟩),
  (34, ⟨.slice 57, 1, 24, [.nil], false⟩),
  (35, ⟨.other, 1, 8, [.d .nilfn], false⟩),
  (36, ⟨.other, 1, 8, [.d .nilfn], false⟩),
  (37, ⟨.other, 1, 8, [.d .nilfn], false⟩),
  (38, ⟨.other, 1, 8, [.d .nilfn], false⟩),
  (39, ⟨.other, 1, 8, [.d .nilfn], false⟩),
  (40, ⟨.other, 1, 8, [.d .nilfn], false⟩),
  (41, ⟨.struct [(0, 3), (1, 3)], 2, 16, [.d (.int .i64 0), .d (.int .i64 0)], true⟩),
  (42, ⟨.struct [(0, 3), (1, 3)], 2, 16, [.d (.int .i64 0), .d (.int .i64 0)], true⟩),
  (44, ⟨.other, 1, 8, [.d .nilfn], false⟩),
  (46, ⟨.other, 1, 8, [.d .nilfn], false⟩),
  (47, ⟨.other, 1, 8, [.d .nilfn], false⟩),
  (49, ⟨.other, 1, 8, [.d .nilfn], false⟩),
  (51, ⟨.other, 1, 8, [.d .nilfn], false⟩),
  (53, ⟨.other, 1, 8, [.d .nilfn], false⟩),
  (54, ⟨.other, 1, 8, [.d .nilfn], false⟩),
  (55, ⟨.other, 1, 8, [.d .nilfn], false⟩),
  (56, ⟨.other, 1, 8, [.d .nilfn], false⟩),
  (57, ⟨.slice 3, 1, 24, [.nil], false⟩),
  (58, ⟨.other, 1, 8, [.d .nilfn], false⟩),
  (59, ⟨.other, 1, 8, [.d .nilfn], false⟩),
  (60, ⟨.other, 1, 8, [.d .nilfn], false⟩),
  (61, ⟨.other, 1, 8, [.d .nilfn], false⟩),
  (62, ⟨.other, 1, 8, [.d .nilfn], false⟩),
  (63, ⟨.other, 1, 8, [.d .nilfn], false⟩),
  (64, ⟨.other, 1, 8, [.d .nilfn], false⟩),
  (65, ⟨.other, 1, 8, [.d .nilfn], false⟩),
  (67, ⟨.other, 1, 8, [.d .nilfn], false⟩),
  (68, ⟨.other, 1, 8, [.d .nilfn], false⟩),
  (69, ⟨.struct [(0, 3), (1, 3), (2, 3)], 3, 24, [.d (.int .i64 0), .d (.int .i64 0), .d (.int .i64 0)], true⟩),
  (70, ⟨.struct [(0, 3), (1, 3), (2, 3)], 3, 24, [.d (.int .i64 0), .d (.int .i64 0), .d (.int .i64 0)], true⟩),
  (71, ⟨.other, 1, 8, [.d .nilfn], false⟩),
  (72, ⟨.other, 1, 8, [.d .nilfn], false⟩),
  (73, ⟨.other, 1, 8, [.d .nilfn], false⟩),
  (74, ⟨.other, 1, 8, [.d .nilfn], false⟩),
  (75, ⟨.other, 1, 8, [.d .nilfn], false⟩),
  (76, ⟨.other, 1, 8, [.d .nilfn], false⟩),
  (77, ⟨.other, 1, 8, [.d .nilfn], false⟩),
  (83, ⟨.other, 1, 8, [.d .nilfn], false⟩),
  (84, ⟨.int .u32, 1, 4, [.d (.int .u32 0)], false⟩),
  (88, ⟨.other, 1, 8, [.nilptr], false⟩)]
def T : TypeId → Option TI := fun t => assoc tl t
theorem T1 : T 1 = some ⟨.other, 1, 8, [.d .nilfn], false⟩ := rfl
theorem T2 : T 2 = some ⟨.int .i64, 1, 8, [.d (.int .i64 0)], false⟩ := rfl
theorem T3 : T 3 = some ⟨.int .i64, 1, 8, [.d (.int .i64 0)], false⟩ := rfl
theorem T4 : T 4 = some ⟨.bool, 1, 1, [.d (.bool false)], false⟩ := rfl
theorem T5 : T 5 = some ⟨.int .u8, 1, 1, [.d (.int .u8 0)], false⟩ := rfl
theorem T9 : T 9 = some ⟨.str, 1, 16, [.d (.str ⟨#[]⟩)], false⟩ := rfl
theorem T12 : T 12 = some ⟨.int .u64, 1, 8, [.d (.int .u64 0)], false⟩ := rfl
theorem T21 : T 21 = some ⟨.int .i32, 1, 4, [.d (.int .i32 0)], false⟩ := rfl
theorem T22 : T 22 = some ⟨.slice 32, 1, 24, [.nil], false⟩ := rfl
theorem T23 : T 23 = some ⟨.other, 1, 8, [.d .nilfn], false⟩ := rfl
theorem T24 : T 24 = some ⟨.other, 1, 8, [.d .nilfn], false⟩ := rfl
theorem T25 : T 25 = some ⟨.int .i64, 1, 8, [.d (.int .i64 0)], false⟩ := rfl
theorem T27 : T 27 = some ⟨.other, 1, 8, [.d .nilfn], false⟩ := rfl
theorem T28 : T 28 = some ⟨.other, 1, 8, [.d .nilfn], false⟩ := rfl
theorem T29 : T 29 = some ⟨.other, 1, 8, [.d .nilfn], false⟩ := rfl
theorem T30 : T 30 = some ⟨.slice 70, 1, 24, [.nil], false⟩ := rfl
theorem T31 : T 31 = some ⟨.struct [(0, 3), (1, 3), (2, 3), (3, 30)], 4, 48, [.d (.int .i64 0), .d (.int .i64 0), .d (.int .i64 0), .nil], false⟩ := rfl
theorem T32 : T 32 = some ⟨.struct [(0, 3), (1, 3), (2, 3), (3, 30)], 4, 48, [.d (.int .i64 0), .d (.int .i64 0), .d (.int .i64 0), .nil], false⟩ := rfl
theorem T33 : T 33 = some ⟨.other, 1, 8, [.d .nilfn], false⟩ := rfl
theorem T34 : T 34 = some ⟨.slice 57, 1, 24, [.nil], false⟩ := rfl
theorem T35 : T 35 = some ⟨.other, 1, 8, [.d .nilfn], false⟩ := rfl
theorem T36 : T 36 = some ⟨.other, 1, 8, [.d .nilfn], false⟩ := rfl
theorem T37 : T 37 = some ⟨.other, 1, 8, [.d .nilfn], false⟩ := rfl
theorem T38 : T 38 = some ⟨.other, 1, 8, [.d .nilfn], false⟩ := rfl
theorem T39 : T 39 = some ⟨.other, 1, 8, [.d .nilfn], false⟩ := rfl
theorem T40 : T 40 = some ⟨.other, 1, 8, [.d .nilfn], false⟩ := rfl
theorem T41 : T 41 = some ⟨.struct [(0, 3), (1, 3)], 2, 16, [.d (.int .i64 0), .d (.int .i64 0)], true⟩ := rfl
theorem T42 : T 42 = some ⟨.struct [(0, 3), (1, 3)], 2, 16, [.d (.int .i64 0), .d (.int .i64 0)], true⟩ := rfl
theorem T44 : T 44 = some ⟨.other, 1, 8, [.d .nilfn], false⟩ := rfl
theorem T46 : T 46 = some ⟨.other, 1, 8, [.d .nilfn], false⟩ := rfl
theorem T47 : T 47 = some ⟨.other, 1, 8, [.d .nilfn], false⟩ := rfl
theorem T49 : T 49 = some ⟨.other, 1, 8, [.d .nilfn], false⟩ := rfl
theorem T51 : T 51 = some ⟨.other, 1, 8, [.d .nilfn], false⟩ := rfl
theorem T53 : T 53 = some ⟨.other, 1, 8, [.d .nilfn], false⟩ := rfl
theorem T54 : T 54 = some ⟨.other, 1, 8, [.d .nilfn], false⟩ := rfl
theorem T55 : T 55 = some ⟨.other, 1, 8, [.d .nilfn], false⟩ := rfl
theorem T56 : T 56 = some ⟨.other, 1, 8, [.d .nilfn], false⟩ := rfl
theorem T57 : T 57 = some ⟨.slice 3, 1, 24, [.nil], false⟩ := rfl
theorem T58 : T 58 = some ⟨.other, 1, 8, [.d .nilfn], false⟩ := rfl
theorem T59 : T 59 = some ⟨.other, 1, 8, [.d .nilfn], false⟩ := rfl
theorem T60 : T 60 = some ⟨.other, 1, 8, [.d .nilfn], false⟩ := rfl
theorem T61 : T 61 = some ⟨.other, 1, 8, [.d .nilfn], false⟩ := rfl
theorem T62 : T 62 = some ⟨.other, 1, 8, [.d .nilfn], false⟩ := rfl
theorem T63 : T 63 = some ⟨.other, 1, 8, [.d .nilfn], false⟩ := rfl
theorem T64 : T 64 = some ⟨.other, 1, 8, [.d .nilfn], false⟩ := rfl
theorem T65 : T 65 = some ⟨.other, 1, 8, [.d .nilfn], false⟩ := rfl
theorem T67 : T 67 = some ⟨.other, 1, 8, [.d .nilfn], false⟩ := rfl
theorem T68 : T 68 = some ⟨.other, 1, 8, [.d .nilfn], false⟩ := rfl
theorem T69 : T 69 = some ⟨.struct [(0, 3), (1, 3), (2, 3)], 3, 24, [.d (.int .i64 0), .d (.int .i64 0), .d (.int .i64 0)], true⟩ := rfl
theorem T70 : T 70 = some ⟨.struct [(0, 3), (1, 3), (2, 3)], 3, 24, [.d (.int .i64 0), .d (.int .i64 0), .d (.int .i64 0)], true⟩ := rfl
theorem T71 : T 71 = some ⟨.other, 1, 8, [.d .nilfn], false⟩ := rfl
theorem T72 : T 72 = some ⟨.other, 1, 8, [.d .nilfn], false⟩ := rfl
theorem T73 : T 73 = some ⟨.other, 1, 8, [.d .nilfn], false⟩ := rfl
theorem T74 : T 74 = some ⟨.other, 1, 8, [.d .nilfn], false⟩ := rfl
theorem T75 : T 75 = some ⟨.other, 1, 8, [.d .nilfn], false⟩ := rfl
theorem T76 : T 76 = some ⟨.other, 1, 8, [.d .nilfn], false⟩ := rfl
theorem T77 : T 77 = some ⟨.other, 1, 8, [.d .nilfn], false⟩ := rfl
theorem T83 : T 83 = some ⟨.other, 1, 8, [.d .nilfn], false⟩ := rfl
theorem T84 : T 84 = some ⟨.int .u32, 1, 4, [.d (.int .u32 0)], false⟩ := rfl
theorem T88 : T 88 = some ⟨.other, 1, 8, [.nilptr], false⟩ := rfl
theorem ok1 : TIok Try.prog 1 ⟨.other, 1, 8, [.d .nilfn], false⟩ := TIok.of (.nilFunc) Try.underlying1 (rfl) (by kernel_rfl) rfl rfl rfl
theorem ok2 : TIok Try.prog 2 ⟨.int .i64, 1, 8, [.d (.int .i64 0)], false⟩ := TIok.of (.int .i64 0) Try.underlying2 (rfl) (by kernel_rfl) rfl rfl rfl
theorem ok3 : TIok Try.prog 3 ⟨.int .i64, 1, 8, [.d (.int .i64 0)], false⟩ := TIok.of (.int .i64 0) Try.underlying3 (rfl) (by kernel_rfl) rfl rfl rfl
theorem ok4 : TIok Try.prog 4 ⟨.bool, 1, 1, [.d (.bool false)], false⟩ := TIok.of (.bool false) Try.underlying4 (rfl) (by kernel_rfl) rfl rfl rfl
theorem ok5 : TIok Try.prog 5 ⟨.int .u8, 1, 1, [.d (.int .u8 0)], false⟩ := TIok.of (.int .u8 0) Try.underlying5 (rfl) (by kernel_rfl) rfl rfl rfl
theorem ok9 : TIok Try.prog 9 ⟨.str, 1, 16, [.d (.str ⟨#[]⟩)], false⟩ := TIok.of (.string ⟨#[]⟩) Try.underlying9 (rfl) (by kernel_rfl) rfl rfl rfl
theorem ok12 : TIok Try.prog 12 ⟨.int .u64, 1, 8, [.d (.int .u64 0)], false⟩ := TIok.of (.int .u64 0) Try.underlying12 (rfl) (by kernel_rfl) rfl rfl rfl
theorem ok21 : TIok Try.prog 21 ⟨.int .i32, 1, 4, [.d (.int .i32 0)], false⟩ := TIok.of (.int .i32 0) Try.underlying21 (rfl) (by kernel_rfl) rfl rfl rfl
theorem ok22 : TIok Try.prog 22 ⟨.slice 32, 1, 24, [.nil], false⟩ := TIok.of (.slice none 0 0) Try.underlying22 (rfl) (by kernel_rfl) rfl rfl rfl
theorem ok23 : TIok Try.prog 23 ⟨.other, 1, 8, [.d .nilfn], false⟩ := TIok.of (.nilFunc) Try.underlying23 (rfl) (by kernel_rfl) rfl rfl rfl
theorem ok24 : TIok Try.prog 24 ⟨.other, 1, 8, [.d .nilfn], false⟩ := TIok.of (.nilFunc) Try.underlying24 (rfl) (by kernel_rfl) rfl rfl rfl
theorem ok25 : TIok Try.prog 25 ⟨.int .i64, 1, 8, [.d (.int .i64 0)], false⟩ := TIok.of (.int .i64 0) Try.underlying25 (rfl) (by kernel_rfl) rfl rfl rfl
theorem ok27 : TIok Try.prog 27 ⟨.other, 1, 8, [.d .nilfn], false⟩ := TIok.of (.nilFunc) Try.underlying27 (rfl) (by kernel_rfl) rfl rfl rfl
theorem ok28 : TIok Try.prog 28 ⟨.other, 1, 8, [.d .nilfn], false⟩ := TIok.of (.nilFunc) Try.underlying28 (rfl) (by kernel_rfl) rfl rfl rfl
theorem ok29 : TIok Try.prog 29 ⟨.other, 1, 8, [.d .nilfn], false⟩ := TIok.of (.nilFunc) Try.underlying29 (rfl) (by kernel_rfl) rfl rfl rfl
theorem ok30 : TIok Try.prog 30 ⟨.slice 70, 1, 24, [.nil], false⟩ := TIok.of (.slice none 0 0) Try.underlying30 (rfl) (by kernel_rfl) rfl rfl rfl
theorem ok31 : TIok Try.prog 31 ⟨.struct [(0, 3), (1, 3), (2, 3), (3, 30)], 4, 48, [.d (.int .i64 0), .d (.int .i64 0), .d (.int .i64 0), .nil], false⟩ := TIok.of (.agg #[.int .i64 0, .int .i64 0, .int .i64 0, .slice none 0 0]) Try.underlying31 (fields_of rfl) (by kernel_rfl) rfl rfl rfl
theorem ok32 : TIok Try.prog 32 ⟨.struct [(0, 3), (1, 3), (2, 3), (3, 30)], 4, 48, [.d (.int .i64 0), .d (.int .i64 0), .d (.int .i64 0), .nil], false⟩ := TIok.of (.agg #[.int .i64 0, .int .i64 0, .int .i64 0, .slice none 0 0]) Try.underlying32 (fields_of rfl) (by kernel_rfl) rfl rfl rfl
theorem ok33 : TIok Try.prog 33 ⟨.other, 1, 8, [.d .nilfn], false⟩ := TIok.of (.nilFunc) Try.underlying33 (rfl) (by kernel_rfl) rfl rfl rfl
theorem ok34 : TIok Try.prog 34 ⟨.slice 57, 1, 24, [.nil], false⟩ := TIok.of (.slice none 0 0) Try.underlying34 (rfl) (by kernel_rfl) rfl rfl rfl
theorem ok35 : TIok Try.prog 35 ⟨.other, 1, 8, [.d .nilfn], false⟩ := TIok.of (.nilFunc) Try.underlying35 (rfl) (by kernel_rfl) rfl rfl rfl
theorem ok36 : TIok Try.prog 36 ⟨.other, 1, 8, [.d .nilfn], false⟩ := TIok.of (.nilFunc) Try.underlying36 (rfl) (by kernel_rfl) rfl rfl rfl
theorem ok37 : TIok Try.prog 37 ⟨.other, 1, 8, [.d .nilfn], false⟩ := TIok.of (.nilFunc) Try.underlying37 (rfl) (by kernel_rfl) rfl rfl rfl
theorem ok38 : TIok Try.prog 38 ⟨.other, 1, 8, [.d .nilfn], false⟩ := TIok.of (.nilFunc) Try.underlying38 (rfl) (by kernel_rfl) rfl rfl rfl
theorem ok39 : TIok Try.prog 39 ⟨.other, 1, 8, [.d .nilfn], false⟩ := TIok.of (.nilFunc) Try.underlying39 (rfl) (by kernel_rfl) rfl rfl rfl
theorem ok40 : TIok Try.prog 40 ⟨.other, 1, 8, [.d .nilfn], false⟩ := TIok.of (.nilFunc) Try.underlying40 (rfl) (by kernel_rfl) rfl rfl rfl
theorem ok41 : TIok Try.prog 41 ⟨.struct [(0, 3), (1, 3)], 2, 16, [.d (.int .i64 0), .d (.int .i64 0)], true⟩ := TIok.of (.agg #[.int .i64 0, .int .i64 0]) Try.underlying41 (fields_of rfl) (by kernel_rfl) rfl rfl rfl
theorem ok42 : TIok Try.prog 42 ⟨.struct [(0, 3), (1, 3)], 2, 16, [.d (.int .i64 0), .d (.int .i64 0)], true⟩ := TIok.of (.agg #[.int .i64 0, .int .i64 0]) Try.underlying42 (fields_of rfl) (by kernel_rfl) rfl rfl rfl
theorem ok44 : TIok Try.prog 44 ⟨.other, 1, 8, [.d .nilfn], false⟩ := TIok.of (.nilFunc) Try.underlying44 (rfl) (by kernel_rfl) rfl rfl rfl
theorem ok46 : TIok Try.prog 46 ⟨.other, 1, 8, [.d .nilfn], false⟩ := TIok.of (.nilFunc) Try.underlying46 (rfl) (by kernel_rfl) rfl rfl rfl
theorem ok47 : TIok Try.prog 47 ⟨.other, 1, 8, [.d .nilfn], false⟩ := TIok.of (.nilFunc) Try.underlying47 (rfl) (by kernel_rfl) rfl rfl rfl
theorem ok49 : TIok Try.prog 49 ⟨.other, 1, 8, [.d .nilfn], false⟩ := TIok.of (.nilFunc) Try.underlying49 (rfl) (by kernel_rfl) rfl rfl rfl
theorem ok51 : TIok Try.prog 51 ⟨.other, 1, 8, [.d .nilfn], false⟩ := TIok.of (.nilFunc) Try.underlying51 (rfl) (by kernel_rfl) rfl rfl rfl
theorem ok53 : TIok Try.prog 53 ⟨.other, 1, 8, [.d .nilfn], false⟩ := TIok.of (.nilFunc) Try.underlying53 (rfl) (by kernel_rfl) rfl rfl rfl
theorem ok54 : TIok Try.prog 54 ⟨.other, 1, 8, [.d .nilfn], false⟩ := TIok.of (.nilFunc) Try.underlying54 (rfl) (by kernel_rfl) rfl rfl rfl
theorem ok55 : TIok Try.prog 55 ⟨.other, 1, 8, [.d .nilfn], false⟩ := TIok.of (.nilFunc) Try.underlying55 (rfl) (by kernel_rfl) rfl rfl rfl
theorem ok56 : TIok Try.prog 56 ⟨.other, 1, 8, [.d .nilfn], false⟩ := TIok.of (.nilFunc) Try.underlying56 (rfl) (by kernel_rfl) rfl rfl rfl
theorem ok57 : TIok Try.prog 57 ⟨.slice 3, 1, 24, [.nil], false⟩ := TIok.of (.slice none 0 0) Try.underlying57 (rfl) (by kernel_rfl) rfl rfl rfl
theorem ok58 : TIok Try.prog 58 ⟨.other, 1, 8, [.d .nilfn], false⟩ := TIok.of (.nilFunc) Try.underlying58 (rfl) (by kernel_rfl) rfl rfl rfl
theorem ok59 : TIok Try.prog 59 ⟨.other, 1, 8, [.d .nilfn], false⟩ := TIok.of (.nilFunc) Try.underlying59 (rfl) (by kernel_rfl) rfl rfl rfl
theorem ok60 : TIok Try.prog 60 ⟨.other, 1, 8, [.d .nilfn], false⟩ := TIok.of (.nilFunc) Try.underlying60 (rfl) (by kernel_rfl) rfl rfl rfl
theorem ok61 : TIok Try.prog 61 ⟨.other, 1, 8, [.d .nilfn], false⟩ := TIok.of (.nilFunc) Try.underlying61 (rfl) (by kernel_rfl) rfl rfl rfl
theorem ok62 : TIok Try.prog 62 ⟨.other, 1, 8, [.d .nilfn], false⟩ := TIok.of (.nilFunc) Try.underlying62 (rfl) (by kernel_rfl) rfl rfl rfl
theorem ok63 : TIok Try.prog 63 ⟨.other, 1, 8, [.d .nilfn], false⟩ := TIok.of (.nilFunc) Try.underlying63 (rfl) (by kernel_rfl) rfl rfl rfl
theorem ok64 : TIok Try.prog 64 ⟨.other, 1, 8, [.d .nilfn], false⟩ := TIok.of (.nilFunc) Try.underlying64 (rfl) (by kernel_rfl) rfl rfl rfl
theorem ok65 : TIok Try.prog 65 ⟨.other, 1, 8, [.d .nilfn], false⟩ := TIok.of (.nilFunc) Try.underlying65 (rfl) (by kernel_rfl) rfl rfl rfl
theorem ok67 : TIok Try.prog 67 ⟨.other, 1, 8, [.d .nilfn], false⟩ := TIok.of (.nilFunc) Try.underlying67 (rfl) (by kernel_rfl) rfl rfl rfl
theorem ok68 : TIok Try.prog 68 ⟨.other, 1, 8, [.d .nilfn], false⟩ := TIok.of (.nilFunc) Try.underlying68 (rfl) (by kernel_rfl) rfl rfl rfl
theorem ok69 : TIok Try.prog 69 ⟨.struct [(0, 3), (1, 3), (2, 3)], 3, 24, [.d (.int .i64 0), .d (.int .i64 0), .d (.int .i64 0)], true⟩ := TIok.of (.agg #[.int .i64 0, .int .i64 0, .int .i64 0]) Try.underlying69 (fields_of rfl) (by kernel_rfl) rfl rfl rfl
theorem ok70 : TIok Try.prog 70 ⟨.struct [(0, 3), (1, 3), (2, 3)], 3, 24, [.d (.int .i64 0), .d (.int .i64 0), .d (.int .i64 0)], true⟩ := TIok.of (.agg #[.int .i64 0, .int .i64 0, .int .i64 0]) Try.underlying70 (fields_of rfl) (by kernel_rfl) rfl rfl rfl
theorem ok71 : TIok Try.prog 71 ⟨.other, 1, 8, [.d .nilfn], false⟩ := TIok.of (.nilFunc) Try.underlying71 (rfl) (by kernel_rfl) rfl rfl rfl
theorem ok72 : TIok Try.prog 72 ⟨.other, 1, 8, [.d .nilfn], false⟩ := TIok.of (.nilFunc) Try.underlying72 (rfl) (by kernel_rfl) rfl rfl rfl
theorem ok73 : TIok Try.prog 73 ⟨.other, 1, 8, [.d .nilfn], false⟩ := TIok.of (.nilFunc) Try.underlying73 (rfl) (by kernel_rfl) rfl rfl rfl
theorem ok74 : TIok Try.prog 74 ⟨.other, 1, 8, [.d .nilfn], false⟩ := TIok.of (.nilFunc) Try.underlying74 (rfl) (by kernel_rfl) rfl rfl rfl
theorem ok75 : TIok Try.prog 75 ⟨.other, 1, 8, [.d .nilfn], false⟩ := TIok.of (.nilFunc) Try.underlying75 (rfl) (by kernel_rfl) rfl rfl rfl
theorem ok76 : TIok Try.prog 76 ⟨.other, 1, 8, [.d .nilfn], false⟩ := TIok.of (.nilFunc) Try.underlying76 (rfl) (by kernel_rfl) rfl rfl rfl
theorem ok77 : TIok Try.prog 77 ⟨.other, 1, 8, [.d .nilfn], false⟩ := TIok.of (.nilFunc) Try.underlying77 (rfl) (by kernel_rfl) rfl rfl rfl
theorem ok83 : TIok Try.prog 83 ⟨.other, 1, 8, [.d .nilfn], false⟩ := TIok.of (.nilFunc) Try.underlying83 (rfl) (by kernel_rfl) rfl rfl rfl
theorem ok84 : TIok Try.prog 84 ⟨.int .u32, 1, 4, [.d (.int .u32 0)], false⟩ := TIok.of (.int .u32 0) Try.underlying84 (rfl) (by kernel_rfl) rfl rfl rfl
theorem ok88 : TIok Try.prog 88 ⟨.other, 1, 8, [.nilptr], false⟩ := TIok.of (.pointer none) Try.underlying88 (rfl) (by kernel_rfl) rfl rfl rfl
theorem eq41 : EqTells Try.prog 41 [some .i64, some .i64] := eqTells_of (F := _) Try.underlying41 (by kernel_rfl) (by kernel_rfl) (fun i f h => by
  rcases i with _ | i
  · cases h; exact ⟨by decide, rfl, _, rfl, Try.underlying3⟩
  rcases i with _ | i
  · cases h; exact ⟨by decide, rfl, _, rfl, Try.underlying3⟩
  simp at h) rfl
theorem eq42 : EqTells Try.prog 42 [some .i64, some .i64] := eqTells_of (F := _) Try.underlying42 (by kernel_rfl) (by kernel_rfl) (fun i f h => by
  rcases i with _ | i
  · cases h; exact ⟨by decide, rfl, _, rfl, Try.underlying3⟩
  rcases i with _ | i
  · cases h; exact ⟨by decide, rfl, _, rfl, Try.underlying3⟩
  simp at h) rfl
theorem eq69 : EqTells Try.prog 69 [some .i64, some .i64, some .i64] := eqTells_of (F := _) Try.underlying69 (by kernel_rfl) (by kernel_rfl) (fun i f h => by
  rcases i with _ | i
  · cases h; exact ⟨by decide, rfl, _, rfl, Try.underlying3⟩
  rcases i with _ | i
  · cases h; exact ⟨by decide, rfl, _, rfl, Try.underlying3⟩
  rcases i with _ | i
  · cases h; exact ⟨by decide, rfl, _, rfl, Try.underlying3⟩
  simp at h) rfl
theorem eq70 : EqTells Try.prog 70 [some .i64, some .i64, some .i64] := eqTells_of (F := _) Try.underlying70 (by kernel_rfl) (by kernel_rfl) (fun i f h => by
  rcases i with _ | i
  · cases h; exact ⟨by decide, rfl, _, rfl, Try.underlying3⟩
  rcases i with _ | i
  · cases h; exact ⟨by decide, rfl, _, rfl, Try.underlying3⟩
  rcases i with _ | i
  · cases h; exact ⟨by decide, rfl, _, rfl, Try.underlying3⟩
  simp at h) rfl
theorem tab : TabOk Try.prog T := by
  refine TabOk.of (by kernel_rfl) (assoc_all (l := tl) (Q := fun t i => TIok Try.prog t i) ?_) (assoc_all (l := tl) (Q := fun t i => i.eq = true → ∀ ks, i.kds = some ks → EqTells Try.prog t ks) ?_) (fun t i fs h hk => assoc_all (l := tl) (Q := fun _ i => ∀ fs, i.k = .struct fs → fs.all (fun x => (T x.2).isSome) = true) ?_ t i h fs hk)
  · simp only [tl, List.forall_mem_cons, List.not_mem_nil, false_implies, implies_true, and_true]
    exact ⟨ok1, ok2, ok3, ok4, ok5, ok9, ok12, ok21, ok22, ok23, ok24, ok25, ok27, ok28, ok29, ok30, ok31, ok32, ok33, ok34, ok35, ok36, ok37, ok38, ok39, ok40, ok41, ok42, ok44, ok46, ok47, ok49, ok51, ok53, ok54, ok55, ok56, ok57, ok58, ok59, ok60, ok61, ok62, ok63, ok64, ok65, ok67, ok68, ok69, ok70, ok71, ok72, ok73, ok74, ok75, ok76, ok77, ok83, ok84, ok88⟩
  · simp only [tl, List.forall_mem_cons, List.not_mem_nil, false_implies, implies_true, and_true]
    exact ⟨(fun h => by cases h), (fun h => by cases h), (fun h => by cases h), (fun h => by cases h), (fun h => by cases h), (fun h => by cases h), (fun h => by cases h), (fun h => by cases h), (fun h => by cases h), (fun h => by cases h), (fun h => by cases h), (fun h => by cases h), (fun h => by cases h), (fun h => by cases h), (fun h => by cases h), (fun h => by cases h), (fun h => by cases h), (fun h => by cases h), (fun h => by cases h), (fun h => by cases h), (fun h => by cases h), (fun h => by cases h), (fun h => by cases h), (fun h => by cases h), (fun h => by cases h), (fun h => by cases h), (fun _ ks h => by cases h; exact eq41), (fun _ ks h => by cases h; exact eq42), (fun h => by cases h), (fun h => by cases h), (fun h => by cases h), (fun h => by cases h), (fun h => by cases h), (fun h => by cases h), (fun h => by cases h), (fun h => by cases h), (fun h => by cases h), (fun h => by cases h), (fun h => by cases h), (fun h => by cases h), (fun h => by cases h), (fun h => by cases h), (fun h => by cases h), (fun h => by cases h), (fun h => by cases h), (fun h => by cases h), (fun h => by cases h), (fun h => by cases h), (fun _ ks h => by cases h; exact eq69), (fun _ ks h => by cases h; exact eq70), (fun h => by cases h), (fun h => by cases h), (fun h => by cases h), (fun h => by cases h), (fun h => by cases h), (fun h => by cases h), (fun h => by cases h), (fun h => by cases h), (fun h => by cases h), (fun h => by cases h)⟩
  · simp only [tl, List.forall_mem_cons, List.not_mem_nil, false_implies, implies_true, and_true]
    exact ⟨(fun fs h => by cases h), (fun fs h => by cases h), (fun fs h => by cases h), (fun fs h => by cases h), (fun fs h => by cases h), (fun fs h => by cases h), (fun fs h => by cases h), (fun fs h => by cases h), (fun fs h => by cases h), (fun fs h => by cases h), (fun fs h => by cases h), (fun fs h => by cases h), (fun fs h => by cases h), (fun fs h => by cases h), (fun fs h => by cases h), (fun fs h => by cases h), (fun fs h => by cases h; rfl), (fun fs h => by cases h; rfl), (fun fs h => by cases h), (fun fs h => by cases h), (fun fs h => by cases h), (fun fs h => by cases h), (fun fs h => by cases h), (fun fs h => by cases h), (fun fs h => by cases h), (fun fs h => by cases h), (fun fs h => by cases h; rfl), (fun fs h => by cases h; rfl), (fun fs h => by cases h), (fun fs h => by cases h), (fun fs h => by cases h), (fun fs h => by cases h), (fun fs h => by cases h), (fun fs h => by cases h), (fun fs h => by cases h), (fun fs h => by cases h), (fun fs h => by cases h), (fun fs h => by cases h), (fun fs h => by cases h), (fun fs h => by cases h), (fun fs h => by cases h), (fun fs h => by cases h), (fun fs h => by cases h), (fun fs h => by cases h), (fun fs h => by cases h), (fun fs h => by cases h), (fun fs h => by cases h), (fun fs h => by cases h), (fun fs h => by cases h; rfl), (fun fs h => by cases h; rfl), (fun fs h => by cases h), (fun fs h => by cases h), (fun fs h => by cases h), (fun fs h => by cases h), (fun fs h => by cases h), (fun fs h => by cases h), (fun fs h => by cases h), (fun fs h => by cases h), (fun fs h => by cases h), (fun fs h => by cases h)⟩
end Go.Proofs.Ytcgliccegpjnfaa
