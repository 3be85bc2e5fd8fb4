/- The table of the types of the translation. No law is proved here. -/
import Derived.Test.YtgbgmijighbfbaaProg
import Derived.KernelRfl
import Derived.Test.YtgbgmijighbfbaaAv23
set_option linter.unusedSimpArgs false
set_option linter.unusedVariables false
namespace Go.Proofs.Ytgbgmijighbfbaa
open Go.Av
def tab : List (Nat × TS) := [
  (3, ⟨.int .i64, 1, 8, [.int .i64 0]⟩),
  (4, ⟨.bool, 1, 1, [.bool false]⟩),
  (5, ⟨.int .u8, 1, 1, [.int .u8 0]⟩),
  (9, ⟨.str, 1, 16, [.str ⟨#[]⟩]⟩),
  (22, ⟨.slice 52, 1, 24, [.nilsl]⟩),
  (23, ⟨.slice 54, 1, 24, [.nilsl]⟩),
  (24, ⟨.struct [(0, 9), (1, 22), (2, 23), (3, 9)], 4, 80, [.str ⟨#[]⟩, .nilsl, .nilsl, .str ⟨#[]⟩]⟩),
  (25, ⟨.struct [(0, 9), (1, 22), (2, 23), (3, 9)], 4, 80, [.str ⟨#[]⟩, .nilsl, .nilsl, .str ⟨#[]⟩]⟩),
  (26, ⟨.slice 4, 1, 24, [.nilsl]⟩),
  (29, ⟨.int .i64, 1, 8, [.int .i64 0]⟩),
  (35, ⟨.struct [(0, 26), (1, 26), (2, 26)], 3, 72, [.nilsl, .nilsl, .nilsl]⟩),
  (36, ⟨.struct [(0, 26), (1, 26), (2, 26)], 3, 72, [.nilsl, .nilsl, .nilsl]⟩),
  (39, ⟨.slice 3, 1, 24, [.nilsl]⟩),
  (49, ⟨.struct [(0, 3), (1, 3)], 2, 16, [.int .i64 0, .int .i64 0]⟩),
  (50, ⟨.struct [(0, 3), (1, 3)], 2, 16, [.int .i64 0, .int .i64 0]⟩),
  (51, ⟨.struct [(0, 3), (1, 50), (3, 9), (4, 9)], 5, 56, [.int .i64 0, .int .i64 0, .int .i64 0, .str ⟨#[]⟩, .str ⟨#[]⟩]⟩),
  (52, ⟨.struct [(0, 3), (1, 50), (3, 9), (4, 9)], 5, 56, [.int .i64 0, .int .i64 0, .int .i64 0, .str ⟨#[]⟩, .str ⟨#[]⟩]⟩),
  (53, ⟨.struct [(0, 3), (1, 50)], 3, 24, [.int .i64 0, .int .i64 0, .int .i64 0]⟩),
  (54, ⟨.struct [(0, 3), (1, 50)], 3, 24, [.int .i64 0, .int .i64 0, .int .i64 0]⟩),
  (59, ⟨.map 50 4, 1, 8, [.nilmap]⟩),
  (60, ⟨.array 2 26, 2, 48, [.nilsl, .nilsl]⟩),
  (61, ⟨.slice 60, 1, 24, [.nilsl]⟩),
  (68, ⟨.map 9 4, 1, 8, [.nilmap]⟩),
  (69, ⟨.slice 9, 1, 24, [.nilsl]⟩),
  (76, ⟨.slice 36, 1, 24, [.nilsl]⟩),
  (81, ⟨.array 2 4, 2, 2, [.bool false, .bool false]⟩),
  (82, ⟨.array 4 81, 8, 8, [.bool false, .bool false, .bool false, .bool false, .bool false, .bool false, .bool false, .bool false]⟩),
  (85, ⟨.array 3 26, 3, 72, [.nilsl, .nilsl, .nilsl]⟩),
  (87, ⟨.array 4 4, 4, 4, [.bool false, .bool false, .bool false, .bool false]⟩)]
abbrev TT0 : TT := lookT tab
theorem tt_ok : TTOk Try.prog TT0 := ttok_of tab (by kernel_rfl)
end Go.Proofs.Ytgbgmijighbfbaa
