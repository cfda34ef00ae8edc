/- Closed calls of the seat's program, by the machine. No condition. (Printed by a program of this place: wip/tools/genmemo.py.) -/
import Derived.Test.YtbjfngebahogpaaGreatDoorAmE
import Derived.Test.YtbjfngebahogpaaGreatDoorFnSlices
namespace Go.Proofs
open Go.Am
set_option maxRecDepth 100000

-- casuist/lex.Tokens: 2227 operations
theorem Tryz.awm86 : ∀ S, callW Tryz.E 41 [.str [120, 91, 49, 93]] S = some (.tup [.slice .sh 5 [.int .i64 1, .str [120], .int .i64 0, .int .i64 5, .str [91], .int .i64 1, .int .i64 2, .str [49], .int .i64 2, .int .i64 5, .str [93], .int .i64 3, .int .i64 0, .str [], .int .i64 4], .bool true], S) :=
  memo_of Tryz.kSlices_ok (n := 100000) (by kernel_rfl) (by kernel_rfl) (by kernel_rfl)
-- casuist/lex.Tokens: 705 operations
theorem Tryz.awm87 : ∀ S, callW Tryz.E 41 [.str [105, 116, 101, 109]] S = some (.tup [.slice .sh 2 [.int .i64 1, .str [105, 116, 101, 109], .int .i64 0, .int .i64 0, .str [], .int .i64 4], .bool true], S) :=
  memo_of Tryz.kSlices_ok (n := 100000) (by kernel_rfl) (by kernel_rfl) (by kernel_rfl)
-- casuist/lex.Tokens: 1962 operations
theorem Tryz.awm88 : ∀ S, callW Tryz.E 41 [.str [49, 32, 43, 32, 34, 97, 34]] S = some (.tup [.slice .sh 4 [.int .i64 2, .str [49], .int .i64 0, .int .i64 5, .str [43], .int .i64 2, .int .i64 3, .str [97], .int .i64 4, .int .i64 0, .str [], .int .i64 7], .bool true], S) :=
  memo_of Tryz.kSlices_ok (n := 100000) (by kernel_rfl) (by kernel_rfl) (by kernel_rfl)
-- casuist/lex.Tokens: 2928 operations
theorem Tryz.awm89 : ∀ S, callW Tryz.E 41 [.str [91, 49, 44, 32, 34, 97, 34, 93]] S = some (.tup [.slice .sh 6 [.int .i64 5, .str [91], .int .i64 0, .int .i64 2, .str [49], .int .i64 1, .int .i64 5, .str [44], .int .i64 2, .int .i64 3, .str [97], .int .i64 4, .int .i64 5, .str [93], .int .i64 7, .int .i64 0, .str [], .int .i64 8], .bool true], S) :=
  memo_of Tryz.kSlices_ok (n := 100000) (by kernel_rfl) (by kernel_rfl) (by kernel_rfl)
-- casuist/lex.Tokens: 4255 operations
theorem Tryz.awm90 : ∀ S, callW Tryz.E 41 [.str [105, 102, 32, 110, 117, 108, 108, 32, 116, 104, 101, 110, 32, 49, 32, 101, 108, 115, 101, 32, 50]] S = some (.tup [.slice .sh 7 [.int .i64 1, .str [105, 102], .int .i64 0, .int .i64 1, .str [110, 117, 108, 108], .int .i64 3, .int .i64 1, .str [116, 104, 101, 110], .int .i64 8, .int .i64 2, .str [49], .int .i64 13, .int .i64 1, .str [101, 108, 115, 101], .int .i64 15, .int .i64 2, .str [50], .int .i64 20, .int .i64 0, .str [], .int .i64 21], .bool true], S) :=
  memo_of Tryz.kSlices_ok (n := 100000) (by kernel_rfl) (by kernel_rfl) (by kernel_rfl)
-- casuist/lex.Tokens: 2413 operations
theorem Tryz.awm91 : ∀ S, callW Tryz.E 41 [.str [115, 117, 109, 40, 49, 41]] S = some (.tup [.slice .sh 5 [.int .i64 1, .str [115, 117, 109], .int .i64 0, .int .i64 5, .str [40], .int .i64 3, .int .i64 2, .str [49], .int .i64 4, .int .i64 5, .str [41], .int .i64 5, .int .i64 0, .str [], .int .i64 6], .bool true], S) :=
  memo_of Tryz.kSlices_ok (n := 100000) (by kernel_rfl) (by kernel_rfl) (by kernel_rfl)
-- casuist/lex.Tokens: 8609 operations
theorem Tryz.awm92 : ∀ S, callW Tryz.E 41 [.str [40, 102, 117, 110, 99, 116, 105, 111, 110, 40, 120, 58, 32, 110, 117, 109, 98, 101, 114, 41, 32, 120, 32, 43, 32, 49, 41, 40, 50, 41]] S = some (.tup [.slice .sh 15 [.int .i64 5, .str [40], .int .i64 0, .int .i64 1, .str [102, 117, 110, 99, 116, 105, 111, 110], .int .i64 1, .int .i64 5, .str [40], .int .i64 9, .int .i64 1, .str [120], .int .i64 10, .int .i64 5, .str [58], .int .i64 11, .int .i64 1, .str [110, 117, 109, 98, 101, 114], .int .i64 13, .int .i64 5, .str [41], .int .i64 19, .int .i64 1, .str [120], .int .i64 21, .int .i64 5, .str [43], .int .i64 23, .int .i64 2, .str [49], .int .i64 25, .int .i64 5, .str [41], .int .i64 26, .int .i64 5, .str [40], .int .i64 27, .int .i64 2, .str [50], .int .i64 28, .int .i64 5, .str [41], .int .i64 29, .int .i64 0, .str [], .int .i64 30], .bool true], S) :=
  memo_of Tryz.kSlices_ok (n := 100000) (by kernel_rfl) (by kernel_rfl) (by kernel_rfl)

end Go.Proofs
