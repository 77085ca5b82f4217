/- Part 10 of what follows is proved here: the layer over the walk. -/
import Derived.Test.YtghpokloofnbkaaV8
import Derived.Test.YtghpokloofnbkaaProg
import Derived.Test.YtghpokloofnbkaaV1
import Derived.KernelRfl
set_option linter.unusedVariables false
set_option linter.unusedSimpArgs false
set_option maxRecDepth 100000
/- The seat's types, as the V layer wants them; each line is checked against the program by the kernel. -/
namespace Go.Proofs.Ytghpokloofnbkaa
open Go Go.VC

def tl : List (Nat × TI) := [(1, ⟨.other, 1, 8, [.d .nilfn], false⟩),
  (2, ⟨.int .i64, 1, 8, [.d (.int .i64 0)], false⟩),
  (3, ⟨.int .i64, 1, 8, [.d (.int .i64 0)], false⟩),
  (4, ⟨.bool, 1, 1, [.d (.bool false)], false⟩),
  (5, ⟨.int .u8, 1, 1, [.d (.int .u8 0)], false⟩),
  (9, ⟨.str, 1, 16, [.d (.str ⟨#[]⟩)], false⟩),
  (12, ⟨.int .u64, 1, 8, [.d (.int .u64 0)], false⟩),
  (21, ⟨.int .i32, 1, 4, [.d (.int .i32 0)], false⟩),
  (22, ⟨.slice 38, 1, 24, [.nil], false⟩),
  (23, ⟨.other, 1, 8, [.d .nilfn], false⟩),
  (24, ⟨.other, 1, 8, [.d .nilfn], false⟩),
  (25, ⟨.struct [(0, 3), (1, 3)], 2, 16, [.d (.int .i64 0), .d (.int .i64 0)], true⟩),
  (26, ⟨.struct [(0, 3), (1, 3)], 2, 16, [.d (.int .i64 0), .d (.int .i64 0)], true⟩),
  (27, ⟨.int .i64, 1, 8, [.d (.int .i64 0)], false⟩),
  (29, ⟨.other, 1, 8, [.d .nilfn], false⟩),
  (31, ⟨.other, 1, 8, [.d .nilfn], false⟩),
  (32, ⟨.other, 1, 8, [.d .nilfn], false⟩),
  (34, ⟨.other, 1, 8, [.d .nilfn], false⟩),
  (35, ⟨.other, 1, 8, [.d .nilfn], false⟩),
  (36, ⟨.slice 59, 1, 24, [.nil], false⟩),
  (37, ⟨.struct [(0, 3), (1, 3), (2, 3), (3, 36)], 4, 48, [.d (.int .i64 0), .d (.int .i64 0), .d (.int .i64 0), .nil], false⟩),
  (38, ⟨.struct [(0, 3), (1, 3), (2, 3), (3, 36)], 4, 48, [.d (.int .i64 0), .d (.int .i64 0), .d (.int .i64 0), .nil], false⟩),
  (39, ⟨.other, 1, 8, [.d .nilfn], false⟩),
  (41, ⟨.other, 1, 8, [.d .nilfn], false⟩),
  (43, ⟨.other, 1, 8, [.d .nilfn], false⟩),
  (44, ⟨.other, 1, 8, [.d .nilfn], false⟩),
  (45, ⟨.other, 1, 8, [.d .nilfn], false⟩),
  (47, ⟨.other, 1, 8, [.d .nilfn], false⟩),
  (49, ⟨.other, 1, 8, [.d .nilfn], false⟩),
  (50, ⟨.other, 1, 8, [.d .nilfn], false⟩),
  (51, ⟨.other, 1, 8, [.d .nilfn], false⟩),
  (52, ⟨.other, 1, 8, [.d .nilfn], false⟩),
  (53, ⟨.other, 1, 8, [.d .nilfn], false⟩),
  (55, ⟨.other, 1, 8, [.d .nilfn], false⟩),
  (56, ⟨.other, 1, 8, [.d .nilfn], false⟩),
  (57, ⟨.other, 1, 8, [.d .nilfn], false⟩),
  (58, ⟨.struct [(0, 3), (1, 3), (2, 3)], 3, 24, [.d (.int .i64 0), .d (.int .i64 0), .d (.int .i64 0)], true⟩),
  (59, ⟨.struct [(0, 3), (1, 3), (2, 3)], 3, 24, [.d (.int .i64 0), .d (.int .i64 0), .d (.int .i64 0)], true⟩),
  (60, ⟨.other, 1, 8, [.d .nilfn], false⟩),
  (61, ⟨.other, 1, 8, [.d .nilfn], false⟩),
  (62, ⟨.other, 1, 8, [.d .nilfn], false⟩),
  (63, ⟨.other, 1, 8, [.d .nilfn], false⟩),
  (64, ⟨.other, 1, 8, [.d .nilfn], false⟩),
  (65, ⟨.other, 1, 8, [.d .nilfn], false⟩),
  (66, ⟨.other, 1, 8, [.d .nilfn], false⟩),
  (67, ⟨.other, 1, 8, [.d .nilfn], false⟩),
  (68, ⟨.slice 3, 1, 24, [.nil], false⟩),
  (69, ⟨.other, 1, 8, [.d .nilfn], false⟩),
  (70, ⟨.other, 1, 8, [.d .nilfn], false⟩),
  (71, ⟨.other, 1, 8, [.d .nilfn], false⟩),
  (72, ⟨.other, 1, 8, [.d .nilfn], false⟩),
  (73, ⟨.other, 1, 8, [.d .nilfn], false⟩),
  (79, ⟨.other, 1, 8, [.d .nilfn], false⟩),
  (80, ⟨.int .u32, 1, 4, [.d (.int .u32 0)], false⟩),
  (84, ⟨.other, 1, 8, [.nilptr], false⟩)]
def T : TypeId → Option TI := fun t => assoc tl t
theorem T1 : T 1 = some ⟨.other, 1, 8, [.d .nilfn], false⟩ := rfl
theorem T2 : T 2 = some ⟨.int .i64, 1, 8, [.d (.int .i64 0)], false⟩ := rfl
theorem T3 : T 3 = some ⟨.int .i64, 1, 8, [.d (.int .i64 0)], false⟩ := rfl
theorem T4 : T 4 = some ⟨.bool, 1, 1, [.d (.bool false)], false⟩ := rfl
theorem T5 : T 5 = some ⟨.int .u8, 1, 1, [.d (.int .u8 0)], false⟩ := rfl
theorem T9 : T 9 = some ⟨.str, 1, 16, [.d (.str ⟨#[]⟩)], false⟩ := rfl
theorem T12 : T 12 = some ⟨.int .u64, 1, 8, [.d (.int .u64 0)], false⟩ := rfl
theorem T21 : T 21 = some ⟨.int .i32, 1, 4, [.d (.int .i32 0)], false⟩ := rfl
theorem T22 : T 22 = some ⟨.slice 38, 1, 24, [.nil], false⟩ := rfl
theorem T23 : T 23 = some ⟨.other, 1, 8, [.d .nilfn], false⟩ := rfl
theorem T24 : T 24 = some ⟨.other, 1, 8, [.d .nilfn], false⟩ := rfl
theorem T25 : T 25 = some ⟨.struct [(0, 3), (1, 3)], 2, 16, [.d (.int .i64 0), .d (.int .i64 0)], true⟩ := rfl
theorem T26 : T 26 = some ⟨.struct [(0, 3), (1, 3)], 2, 16, [.d (.int .i64 0), .d (.int .i64 0)], true⟩ := rfl
theorem T27 : T 27 = some ⟨.int .i64, 1, 8, [.d (.int .i64 0)], false⟩ := rfl
theorem T29 : T 29 = some ⟨.other, 1, 8, [.d .nilfn], false⟩ := rfl
theorem T31 : T 31 = some ⟨.other, 1, 8, [.d .nilfn], false⟩ := rfl
theorem T32 : T 32 = some ⟨.other, 1, 8, [.d .nilfn], false⟩ := rfl
theorem T34 : T 34 = some ⟨.other, 1, 8, [.d .nilfn], false⟩ := rfl
theorem T35 : T 35 = some ⟨.other, 1, 8, [.d .nilfn], false⟩ := rfl
theorem T36 : T 36 = some ⟨.slice 59, 1, 24, [.nil], false⟩ := rfl
theorem T37 : T 37 = some ⟨.struct [(0, 3), (1, 3), (2, 3), (3, 36)], 4, 48, [.d (.int .i64 0), .d (.int .i64 0), .d (.int .i64 0), .nil], false⟩ := rfl
theorem T38 : T 38 = some ⟨.struct [(0, 3), (1, 3), (2, 3), (3, 36)], 4, 48, [.d (.int .i64 0), .d (.int .i64 0), .d (.int .i64 0), .nil], false⟩ := rfl
theorem T39 : T 39 = some ⟨.other, 1, 8, [.d .nilfn], false⟩ := rfl
theorem T41 : T 41 = some ⟨.other, 1, 8, [.d .nilfn], false⟩ := rfl
theorem T43 : T 43 = some ⟨.other, 1, 8, [.d .nilfn], false⟩ := rfl
theorem T44 : T 44 = some ⟨.other, 1, 8, [.d .nilfn], false⟩ := rfl
theorem T45 : T 45 = some ⟨.other, 1, 8, [.d .nilfn], false⟩ := rfl
theorem T47 : T 47 = some ⟨.other, 1, 8, [.d .nilfn], false⟩ := rfl
theorem T49 : T 49 = some ⟨.other, 1, 8, [.d .nilfn], false⟩ := rfl
theorem T50 : T 50 = some ⟨.other, 1, 8, [.d .nilfn], false⟩ := rfl
theorem T51 : T 51 = some ⟨.other, 1, 8, [.d .nilfn], false⟩ := rfl
theorem T52 : T 52 = some ⟨.other, 1, 8, [.d .nilfn], false⟩ := rfl
theorem T53 : T 53 = some ⟨.other, 1, 8, [.d .nilfn], false⟩ := rfl
theorem T55 : T 55 = some ⟨.other, 1, 8, [.d .nilfn], false⟩ := rfl
theorem T56 : T 56 = some ⟨.other, 1, 8, [.d .nilfn], false⟩ := rfl
theorem T57 : T 57 = some ⟨.other, 1, 8, [.d .nilfn], false⟩ := rfl
theorem T58 : T 58 = some ⟨.struct [(0, 3), (1, 3), (2, 3)], 3, 24, [.d (.int .i64 0), .d (.int .i64 0), .d (.int .i64 0)], true⟩ := rfl
theorem T59 : T 59 = some ⟨.struct [(0, 3), (1, 3), (2, 3)], 3, 24, [.d (.int .i64 0), .d (.int .i64 0), .d (.int .i64 0)], true⟩ := rfl
theorem T60 : T 60 = some ⟨.other, 1, 8, [.d .nilfn], false⟩ := rfl
theorem T61 : T 61 = some ⟨.other, 1, 8, [.d .nilfn], false⟩ := rfl
theorem T62 : T 62 = some ⟨.other, 1, 8, [.d .nilfn], false⟩ := rfl
theorem T63 : T 63 = some ⟨.other, 1, 8, [.d .nilfn], false⟩ := rfl
theorem T64 : T 64 = some ⟨.other, 1, 8, [.d .nilfn], false⟩ := rfl
theorem T65 : T 65 = some ⟨.other, 1, 8, [.d .nilfn], false⟩ := rfl
theorem T66 : T 66 = some ⟨.other, 1, 8, [.d .nilfn], false⟩ := rfl
theorem T67 : T 67 = some ⟨.other, 1, 8, [.d .nilfn], false⟩ := rfl
theorem T68 : T 68 = some ⟨.slice 3, 1, 24, [.nil], false⟩ := rfl
theorem T69 : T 69 = some ⟨.other, 1, 8, [.d .nilfn], false⟩ := rfl
theorem T70 : T 70 = some ⟨.other, 1, 8, [.d .nilfn], false⟩ := rfl
theorem T71 : T 71 = some ⟨.other, 1, 8, [.d .nilfn], false⟩ := rfl
theorem T72 : T 72 = some ⟨.other, 1, 8, [.d .nilfn], false⟩ := rfl
theorem T73 : T 73 = some ⟨.other, 1, 8, [.d .nilfn], false⟩ := rfl
theorem T79 : T 79 = some ⟨.other, 1, 8, [.d .nilfn], false⟩ := rfl
theorem T80 : T 80 = some ⟨.int .u32, 1, 4, [.d (.int .u32 0)], false⟩ := rfl
theorem T84 : T 84 = some ⟨.other, 1, 8, [.nilptr], false⟩ := rfl
theorem ok1 : TIok Try.prog 1 ⟨.other, 1, 8, [.d .nilfn], false⟩ := TIok.of (.nilFunc) Try.underlying1 (rfl) (by kernel_rfl) rfl rfl rfl
theorem ok2 : TIok Try.prog 2 ⟨.int .i64, 1, 8, [.d (.int .i64 0)], false⟩ := TIok.of (.int .i64 0) Try.underlying2 (rfl) (by kernel_rfl) rfl rfl rfl
theorem ok3 : TIok Try.prog 3 ⟨.int .i64, 1, 8, [.d (.int .i64 0)], false⟩ := TIok.of (.int .i64 0) Try.underlying3 (rfl) (by kernel_rfl) rfl rfl rfl
theorem ok4 : TIok Try.prog 4 ⟨.bool, 1, 1, [.d (.bool false)], false⟩ := TIok.of (.bool false) Try.underlying4 (rfl) (by kernel_rfl) rfl rfl rfl
theorem ok5 : TIok Try.prog 5 ⟨.int .u8, 1, 1, [.d (.int .u8 0)], false⟩ := TIok.of (.int .u8 0) Try.underlying5 (rfl) (by kernel_rfl) rfl rfl rfl
theorem ok9 : TIok Try.prog 9 ⟨.str, 1, 16, [.d (.str ⟨#[]⟩)], false⟩ := TIok.of (.string ⟨#[]⟩) Try.underlying9 (rfl) (by kernel_rfl) rfl rfl rfl
theorem ok12 : TIok Try.prog 12 ⟨.int .u64, 1, 8, [.d (.int .u64 0)], false⟩ := TIok.of (.int .u64 0) Try.underlying12 (rfl) (by kernel_rfl) rfl rfl rfl
theorem ok21 : TIok Try.prog 21 ⟨.int .i32, 1, 4, [.d (.int .i32 0)], false⟩ := TIok.of (.int .i32 0) Try.underlying21 (rfl) (by kernel_rfl) rfl rfl rfl
theorem ok22 : TIok Try.prog 22 ⟨.slice 38, 1, 24, [.nil], false⟩ := TIok.of (.slice none 0 0) Try.underlying22 (rfl) (by kernel_rfl) rfl rfl rfl
theorem ok23 : TIok Try.prog 23 ⟨.other, 1, 8, [.d .nilfn], false⟩ := TIok.of (.nilFunc) Try.underlying23 (rfl) (by kernel_rfl) rfl rfl rfl
theorem ok24 : TIok Try.prog 24 ⟨.other, 1, 8, [.d .nilfn], false⟩ := TIok.of (.nilFunc) Try.underlying24 (rfl) (by kernel_rfl) rfl rfl rfl
theorem ok25 : TIok Try.prog 25 ⟨.struct [(0, 3), (1, 3)], 2, 16, [.d (.int .i64 0), .d (.int .i64 0)], true⟩ := TIok.of (.agg #[.int .i64 0, .int .i64 0]) Try.underlying25 (fields_of rfl) (by kernel_rfl) rfl rfl rfl
theorem ok26 : TIok Try.prog 26 ⟨.struct [(0, 3), (1, 3)], 2, 16, [.d (.int .i64 0), .d (.int .i64 0)], true⟩ := TIok.of (.agg #[.int .i64 0, .int .i64 0]) Try.underlying26 (fields_of rfl) (by kernel_rfl) rfl rfl rfl
theorem ok27 : TIok Try.prog 27 ⟨.int .i64, 1, 8, [.d (.int .i64 0)], false⟩ := TIok.of (.int .i64 0) Try.underlying27 (rfl) (by kernel_rfl) rfl rfl rfl
theorem ok29 : TIok Try.prog 29 ⟨.other, 1, 8, [.d .nilfn], false⟩ := TIok.of (.nilFunc) Try.underlying29 (rfl) (by kernel_rfl) rfl rfl rfl
theorem ok31 : TIok Try.prog 31 ⟨.other, 1, 8, [.d .nilfn], false⟩ := TIok.of (.nilFunc) Try.underlying31 (rfl) (by kernel_rfl) rfl rfl rfl
theorem ok32 : TIok Try.prog 32 ⟨.other, 1, 8, [.d .nilfn], false⟩ := TIok.of (.nilFunc) Try.underlying32 (rfl) (by kernel_rfl) rfl rfl rfl
theorem ok34 : TIok Try.prog 34 ⟨.other, 1, 8, [.d .nilfn], false⟩ := TIok.of (.nilFunc) Try.underlying34 (rfl) (by kernel_rfl) rfl rfl rfl
theorem ok35 : TIok Try.prog 35 ⟨.other, 1, 8, [.d .nilfn], false⟩ := TIok.of (.nilFunc) Try.underlying35 (rfl) (by kernel_rfl) rfl rfl rfl
theorem ok36 : TIok Try.prog 36 ⟨.slice 59, 1, 24, [.nil], false⟩ := TIok.of (.slice none 0 0) Try.underlying36 (rfl) (by kernel_rfl) rfl rfl rfl
theorem ok37 : TIok Try.prog 37 ⟨.struct [(0, 3), (1, 3), (2, 3), (3, 36)], 4, 48, [.d (.int .i64 0), .d (.int .i64 0), .d (.int .i64 0), .nil], false⟩ := TIok.of (.agg #[.int .i64 0, .int .i64 0, .int .i64 0, .slice none 0 0]) Try.underlying37 (fields_of rfl) (by kernel_rfl) rfl rfl rfl
theorem ok38 : TIok Try.prog 38 ⟨.struct [(0, 3), (1, 3), (2, 3), (3, 36)], 4, 48, [.d (.int .i64 0), .d (.int .i64 0), .d (.int .i64 0), .nil], false⟩ := TIok.of (.agg #[.int .i64 0, .int .i64 0, .int .i64 0, .slice none 0 0]) Try.underlying38 (fields_of rfl) (by kernel_rfl) rfl rfl rfl
theorem ok39 : TIok Try.prog 39 ⟨.other, 1, 8, [.d .nilfn], false⟩ := TIok.of (.nilFunc) Try.underlying39 (rfl) (by kernel_rfl) rfl rfl rfl
theorem ok41 : TIok Try.prog 41 ⟨.other, 1, 8, [.d .nilfn], false⟩ := TIok.of (.nilFunc) Try.underlying41 (rfl) (by kernel_rfl) rfl rfl rfl
theorem ok43 : TIok Try.prog 43 ⟨.other, 1, 8, [.d .nilfn], false⟩ := TIok.of (.nilFunc) Try.underlying43 (rfl) (by kernel_rfl) rfl rfl rfl
theorem ok44 : TIok Try.prog 44 ⟨.other, 1, 8, [.d .nilfn], false⟩ := TIok.of (.nilFunc) Try.underlying44 (rfl) (by kernel_rfl) rfl rfl rfl
theorem ok45 : TIok Try.prog 45 ⟨.other, 1, 8, [.d .nilfn], false⟩ := TIok.of (.nilFunc) Try.underlying45 (rfl) (by kernel_rfl) rfl rfl rfl
theorem ok47 : TIok Try.prog 47 ⟨.other, 1, 8, [.d .nilfn], false⟩ := TIok.of (.nilFunc) Try.underlying47 (rfl) (by kernel_rfl) rfl rfl rfl
theorem ok49 : TIok Try.prog 49 ⟨.other, 1, 8, [.d .nilfn], false⟩ := TIok.of (.nilFunc) Try.underlying49 (rfl) (by kernel_rfl) rfl rfl rfl
theorem ok50 : TIok Try.prog 50 ⟨.other, 1, 8, [.d .nilfn], false⟩ := TIok.of (.nilFunc) Try.underlying50 (rfl) (by kernel_rfl) rfl rfl rfl
theorem ok51 : TIok Try.prog 51 ⟨.other, 1, 8, [.d .nilfn], false⟩ := TIok.of (.nilFunc) Try.underlying51 (rfl) (by kernel_rfl) rfl rfl rfl
theorem ok52 : TIok Try.prog 52 ⟨.other, 1, 8, [.d .nilfn], false⟩ := TIok.of (.nilFunc) Try.underlying52 (rfl) (by kernel_rfl) rfl rfl rfl
theorem ok53 : TIok Try.prog 53 ⟨.other, 1, 8, [.d .nilfn], false⟩ := TIok.of (.nilFunc) Try.underlying53 (rfl) (by kernel_rfl) rfl rfl rfl
theorem ok55 : TIok Try.prog 55 ⟨.other, 1, 8, [.d .nilfn], false⟩ := TIok.of (.nilFunc) Try.underlying55 (rfl) (by kernel_rfl) rfl rfl rfl
theorem ok56 : TIok Try.prog 56 ⟨.other, 1, 8, [.d .nilfn], false⟩ := TIok.of (.nilFunc) Try.underlying56 (rfl) (by kernel_rfl) rfl rfl rfl
theorem ok57 : TIok Try.prog 57 ⟨.other, 1, 8, [.d .nilfn], false⟩ := TIok.of (.nilFunc) Try.underlying57 (rfl) (by kernel_rfl) rfl rfl rfl
theorem ok58 : TIok Try.prog 58 ⟨.struct [(0, 3), (1, 3), (2, 3)], 3, 24, [.d (.int .i64 0), .d (.int .i64 0), .d (.int .i64 0)], true⟩ := TIok.of (.agg #[.int .i64 0, .int .i64 0, .int .i64 0]) Try.underlying58 (fields_of rfl) (by kernel_rfl) rfl rfl rfl
theorem ok59 : TIok Try.prog 59 ⟨.struct [(0, 3), (1, 3), (2, 3)], 3, 24, [.d (.int .i64 0), .d (.int .i64 0), .d (.int .i64 0)], true⟩ := TIok.of (.agg #[.int .i64 0, .int .i64 0, .int .i64 0]) Try.underlying59 (fields_of rfl) (by kernel_rfl) rfl rfl rfl
theorem ok60 : TIok Try.prog 60 ⟨.other, 1, 8, [.d .nilfn], false⟩ := TIok.of (.nilFunc) Try.underlying60 (rfl) (by kernel_rfl) rfl rfl rfl
theorem ok61 : TIok Try.prog 61 ⟨.other, 1, 8, [.d .nilfn], false⟩ := TIok.of (.nilFunc) Try.underlying61 (rfl) (by kernel_rfl) rfl rfl rfl
theorem ok62 : TIok Try.prog 62 ⟨.other, 1, 8, [.d .nilfn], false⟩ := TIok.of (.nilFunc) Try.underlying62 (rfl) (by kernel_rfl) rfl rfl rfl
theorem ok63 : TIok Try.prog 63 ⟨.other, 1, 8, [.d .nilfn], false⟩ := TIok.of (.nilFunc) Try.underlying63 (rfl) (by kernel_rfl) rfl rfl rfl
theorem ok64 : TIok Try.prog 64 ⟨.other, 1, 8, [.d .nilfn], false⟩ := TIok.of (.nilFunc) Try.underlying64 (rfl) (by kernel_rfl) rfl rfl rfl
theorem ok65 : TIok Try.prog 65 ⟨.other, 1, 8, [.d .nilfn], false⟩ := TIok.of (.nilFunc) Try.underlying65 (rfl) (by kernel_rfl) rfl rfl rfl
theorem ok66 : TIok Try.prog 66 ⟨.other, 1, 8, [.d .nilfn], false⟩ := TIok.of (.nilFunc) Try.underlying66 (rfl) (by kernel_rfl) rfl rfl rfl
theorem ok67 : TIok Try.prog 67 ⟨.other, 1, 8, [.d .nilfn], false⟩ := TIok.of (.nilFunc) Try.underlying67 (rfl) (by kernel_rfl) rfl rfl rfl
theorem ok68 : TIok Try.prog 68 ⟨.slice 3, 1, 24, [.nil], false⟩ := TIok.of (.slice none 0 0) Try.underlying68 (rfl) (by kernel_rfl) rfl rfl rfl
theorem ok69 : TIok Try.prog 69 ⟨.other, 1, 8, [.d .nilfn], false⟩ := TIok.of (.nilFunc) Try.underlying69 (rfl) (by kernel_rfl) rfl rfl rfl
theorem ok70 : TIok Try.prog 70 ⟨.other, 1, 8, [.d .nilfn], false⟩ := TIok.of (.nilFunc) Try.underlying70 (rfl) (by kernel_rfl) rfl rfl rfl
theorem ok71 : TIok Try.prog 71 ⟨.other, 1, 8, [.d .nilfn], false⟩ := TIok.of (.nilFunc) Try.underlying71 (rfl) (by kernel_rfl) rfl rfl rfl
theorem ok72 : TIok Try.prog 72 ⟨.other, 1, 8, [.d .nilfn], false⟩ := TIok.of (.nilFunc) Try.underlying72 (rfl) (by kernel_rfl) rfl rfl rfl
theorem ok73 : TIok Try.prog 73 ⟨.other, 1, 8, [.d .nilfn], false⟩ := TIok.of (.nilFunc) Try.underlying73 (rfl) (by kernel_rfl) rfl rfl rfl
theorem ok79 : TIok Try.prog 79 ⟨.other, 1, 8, [.d .nilfn], false⟩ := TIok.of (.nilFunc) Try.underlying79 (rfl) (by kernel_rfl) rfl rfl rfl
theorem ok80 : TIok Try.prog 80 ⟨.int .u32, 1, 4, [.d (.int .u32 0)], false⟩ := TIok.of (.int .u32 0) Try.underlying80 (rfl) (by kernel_rfl) rfl rfl rfl
theorem ok84 : TIok Try.prog 84 ⟨.other, 1, 8, [.nilptr], false⟩ := TIok.of (.pointer none) Try.underlying84 (rfl) (by kernel_rfl) rfl rfl rfl
theorem eq25 : EqTells Try.prog 25 [some .i64, some .i64] := eqTells_of (F := _) Try.underlying25 (by kernel_rfl) (by kernel_rfl) (fun i f h => by
  rcases i with _ | i
  · cases h; exact ⟨by decide, rfl, _, rfl, Try.underlying3⟩
  rcases i with _ | i
  · cases h; exact ⟨by decide, rfl, _, rfl, Try.underlying3⟩
  simp at h) rfl
theorem eq26 : EqTells Try.prog 26 [some .i64, some .i64] := eqTells_of (F := _) Try.underlying26 (by kernel_rfl) (by kernel_rfl) (fun i f h => by
  rcases i with _ | i
  · cases h; exact ⟨by decide, rfl, _, rfl, Try.underlying3⟩
  rcases i with _ | i
  · cases h; exact ⟨by decide, rfl, _, rfl, Try.underlying3⟩
  simp at h) rfl
theorem eq58 : EqTells Try.prog 58 [some .i64, some .i64, some .i64] := eqTells_of (F := _) Try.underlying58 (by kernel_rfl) (by kernel_rfl) (fun i f h => by
  rcases i with _ | i
  · cases h; exact ⟨by decide, rfl, _, rfl, Try.underlying3⟩
  rcases i with _ | i
  · cases h; exact ⟨by decide, rfl, _, rfl, Try.underlying3⟩
  rcases i with _ | i
  · cases h; exact ⟨by decide, rfl, _, rfl, Try.underlying3⟩
  simp at h) rfl
theorem eq59 : EqTells Try.prog 59 [some .i64, some .i64, some .i64] := eqTells_of (F := _) Try.underlying59 (by kernel_rfl) (by kernel_rfl) (fun i f h => by
  rcases i with _ | i
  · cases h; exact ⟨by decide, rfl, _, rfl, Try.underlying3⟩
  rcases i with _ | i
  · cases h; exact ⟨by decide, rfl, _, rfl, Try.underlying3⟩
  rcases i with _ | i
  · cases h; exact ⟨by decide, rfl, _, rfl, Try.underlying3⟩
  simp at h) rfl
theorem tab : TabOk Try.prog T := by
  refine TabOk.of (by kernel_rfl) (assoc_all (l := tl) (Q := fun t i => TIok Try.prog t i) ?_) (assoc_all (l := tl) (Q := fun t i => i.eq = true → ∀ ks, i.kds = some ks → EqTells Try.prog t ks) ?_) (fun t i fs h hk => assoc_all (l := tl) (Q := fun _ i => ∀ fs, i.k = .struct fs → fs.all (fun x => (T x.2).isSome) = true) ?_ t i h fs hk)
  · simp only [tl, List.forall_mem_cons, List.not_mem_nil, false_implies, implies_true, and_true]
    exact ⟨ok1, ok2, ok3, ok4, ok5, ok9, ok12, ok21, ok22, ok23, ok24, ok25, ok26, ok27, ok29, ok31, ok32, ok34, ok35, ok36, ok37, ok38, ok39, ok41, ok43, ok44, ok45, ok47, ok49, ok50, ok51, ok52, ok53, ok55, ok56, ok57, ok58, ok59, ok60, ok61, ok62, ok63, ok64, ok65, ok66, ok67, ok68, ok69, ok70, ok71, ok72, ok73, ok79, ok80, ok84⟩
  · simp only [tl, List.forall_mem_cons, List.not_mem_nil, false_implies, implies_true, and_true]
    exact ⟨(fun h => by cases h), (fun h => by cases h), (fun h => by cases h), (fun h => by cases h), (fun h => by cases h), (fun h => by cases h), (fun h => by cases h), (fun h => by cases h), (fun h => by cases h), (fun h => by cases h), (fun h => by cases h), (fun _ ks h => by cases h; exact eq25), (fun _ ks h => by cases h; exact eq26), (fun h => by cases h), (fun h => by cases h), (fun h => by cases h), (fun h => by cases h), (fun h => by cases h), (fun h => by cases h), (fun h => by cases h), (fun h => by cases h), (fun h => by cases h), (fun h => by cases h), (fun h => by cases h), (fun h => by cases h), (fun h => by cases h), (fun h => by cases h), (fun h => by cases h), (fun h => by cases h), (fun h => by cases h), (fun h => by cases h), (fun h => by cases h), (fun h => by cases h), (fun h => by cases h), (fun h => by cases h), (fun h => by cases h), (fun _ ks h => by cases h; exact eq58), (fun _ ks h => by cases h; exact eq59), (fun h => by cases h), (fun h => by cases h), (fun h => by cases h), (fun h => by cases h), (fun h => by cases h), (fun h => by cases h), (fun h => by cases h), (fun h => by cases h), (fun h => by cases h), (fun h => by cases h), (fun h => by cases h), (fun h => by cases h), (fun h => by cases h), (fun h => by cases h), (fun h => by cases h), (fun h => by cases h), (fun h => by cases h)⟩
  · simp only [tl, List.forall_mem_cons, List.not_mem_nil, false_implies, implies_true, and_true]
    exact ⟨(fun fs h => by cases h), (fun fs h => by cases h), (fun fs h => by cases h), (fun fs h => by cases h), (fun fs h => by cases h), (fun fs h => by cases h), (fun fs h => by cases h), (fun fs h => by cases h), (fun fs h => by cases h), (fun fs h => by cases h), (fun fs h => by cases h), (fun fs h => by cases h; rfl), (fun fs h => by cases h; rfl), (fun fs h => by cases h), (fun fs h => by cases h), (fun fs h => by cases h), (fun fs h => by cases h), (fun fs h => by cases h), (fun fs h => by cases h), (fun fs h => by cases h), (fun fs h => by cases h; rfl), (fun fs h => by cases h; rfl), (fun fs h => by cases h), (fun fs h => by cases h), (fun fs h => by cases h), (fun fs h => by cases h), (fun fs h => by cases h), (fun fs h => by cases h), (fun fs h => by cases h), (fun fs h => by cases h), (fun fs h => by cases h), (fun fs h => by cases h), (fun fs h => by cases h), (fun fs h => by cases h), (fun fs h => by cases h), (fun fs h => by cases h), (fun fs h => by cases h; rfl), (fun fs h => by cases h; rfl), (fun fs h => by cases h), (fun fs h => by cases h), (fun fs h => by cases h), (fun fs h => by cases h), (fun fs h => by cases h), (fun fs h => by cases h), (fun fs h => by cases h), (fun fs h => by cases h), (fun fs h => by cases h), (fun fs h => by cases h), (fun fs h => by cases h), (fun fs h => by cases h), (fun fs h => by cases h), (fun fs h => by cases h), (fun fs h => by cases h), (fun fs h => by cases h), (fun fs h => by cases h)⟩
end Go.Proofs.Ytghpokloofnbkaa
