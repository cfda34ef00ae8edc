/- Closed calls of the seat's program, by the machine. No condition. (Printed by a program of this place: wip/tools/genmemo.py.) -/
import Derived.Test.YtbjfngebahogpaaGreatDoorAmE
import Derived.Test.YtbjfngebahogpaaGreatDoorFnSlices
namespace Go.Proofs
open Go.Am
set_option maxRecDepth 100000

-- casuist/name.Read: 1053 operations
theorem Tryz.awm0 : ∀ S, callW Tryz.E 25 [.str [115, 116, 114, 105, 110, 103]] S = some (.tup [.slice .sh 1 [.int .i64 1, .str [115, 116, 114, 105, 110, 103], .int .i64 0], .bool true], S) :=
  memo_of Tryz.kSlices_ok (n := 100000) (by kernel_rfl) (by kernel_rfl) (by kernel_rfl)
-- casuist/name.Read: 1053 operations
theorem Tryz.awm1 : ∀ S, callW Tryz.E 25 [.str [110, 117, 109, 98, 101, 114]] S = some (.tup [.slice .sh 1 [.int .i64 1, .str [110, 117, 109, 98, 101, 114], .int .i64 0], .bool true], S) :=
  memo_of Tryz.kSlices_ok (n := 100000) (by kernel_rfl) (by kernel_rfl) (by kernel_rfl)
-- casuist/name.Read: 867 operations
theorem Tryz.awm2 : ∀ S, callW Tryz.E 25 [.str [100, 97, 116, 101]] S = some (.tup [.slice .sh 1 [.int .i64 1, .str [100, 97, 116, 101], .int .i64 0], .bool true], S) :=
  memo_of Tryz.kSlices_ok (n := 100000) (by kernel_rfl) (by kernel_rfl) (by kernel_rfl)
-- casuist/name.Read: 867 operations
theorem Tryz.awm3 : ∀ S, callW Tryz.E 25 [.str [116, 105, 109, 101]] S = some (.tup [.slice .sh 1 [.int .i64 1, .str [116, 105, 109, 101], .int .i64 0], .bool true], S) :=
  memo_of Tryz.kSlices_ok (n := 100000) (by kernel_rfl) (by kernel_rfl) (by kernel_rfl)
-- casuist/name.Read: 2496 operations
theorem Tryz.awm4 : ∀ S, callW Tryz.E 25 [.str [100, 97, 116, 101, 32, 97, 110, 100, 32, 116, 105, 109, 101]] S = some (.tup [.slice .sh 3 [.int .i64 1, .str [100, 97, 116, 101], .int .i64 0, .int .i64 1, .str [97, 110, 100], .int .i64 5, .int .i64 1, .str [116, 105, 109, 101], .int .i64 9], .bool true], S) :=
  memo_of Tryz.kSlices_ok (n := 100000) (by kernel_rfl) (by kernel_rfl) (by kernel_rfl)
-- casuist/name.Read: 1239 operations
theorem Tryz.awm5 : ∀ S, callW Tryz.E 25 [.str [100, 117, 114, 97, 116, 105, 111, 110]] S = some (.tup [.slice .sh 1 [.int .i64 1, .str [100, 117, 114, 97, 116, 105, 111, 110], .int .i64 0], .bool true], S) :=
  memo_of Tryz.kSlices_ok (n := 100000) (by kernel_rfl) (by kernel_rfl) (by kernel_rfl)
-- casuist/name.Read: 3956 operations
theorem Tryz.awm6 : ∀ S, callW Tryz.E 25 [.str [121, 101, 97, 114, 115, 32, 97, 110, 100, 32, 109, 111, 110, 116, 104, 115, 32, 100, 117, 114, 97, 116, 105, 111, 110]] S = some (.tup [.slice .sh 4 [.int .i64 1, .str [121, 101, 97, 114, 115], .int .i64 0, .int .i64 1, .str [97, 110, 100], .int .i64 6, .int .i64 1, .str [109, 111, 110, 116, 104, 115], .int .i64 10, .int .i64 1, .str [100, 117, 114, 97, 116, 105, 111, 110], .int .i64 17], .bool true], S) :=
  memo_of Tryz.kSlices_ok (n := 100000) (by kernel_rfl) (by kernel_rfl) (by kernel_rfl)
-- casuist/name.Read: 774 operations
theorem Tryz.awm7 : ∀ S, callW Tryz.E 25 [.str [110, 111, 116]] S = some (.tup [.slice .sh 1 [.int .i64 1, .str [110, 111, 116], .int .i64 0], .bool true], S) :=
  memo_of Tryz.kSlices_ok (n := 100000) (by kernel_rfl) (by kernel_rfl) (by kernel_rfl)
-- casuist/name.Read: 1332 operations
theorem Tryz.awm8 : ∀ S, callW Tryz.E 25 [.str [115, 117, 98, 115, 116, 114, 105, 110, 103]] S = some (.tup [.slice .sh 1 [.int .i64 1, .str [115, 117, 98, 115, 116, 114, 105, 110, 103], .int .i64 0], .bool true], S) :=
  memo_of Tryz.kSlices_ok (n := 100000) (by kernel_rfl) (by kernel_rfl) (by kernel_rfl)
-- casuist/name.Read: 2048 operations
theorem Tryz.awm9 : ∀ S, callW Tryz.E 25 [.str [115, 116, 114, 105, 110, 103, 32, 108, 101, 110, 103, 116, 104]] S = some (.tup [.slice .sh 2 [.int .i64 1, .str [115, 116, 114, 105, 110, 103], .int .i64 0, .int .i64 1, .str [108, 101, 110, 103, 116, 104], .int .i64 7], .bool true], S) :=
  memo_of Tryz.kSlices_ok (n := 100000) (by kernel_rfl) (by kernel_rfl) (by kernel_rfl)
-- casuist/name.Read: 1769 operations
theorem Tryz.awm10 : ∀ S, callW Tryz.E 25 [.str [117, 112, 112, 101, 114, 32, 99, 97, 115, 101]] S = some (.tup [.slice .sh 2 [.int .i64 1, .str [117, 112, 112, 101, 114], .int .i64 0, .int .i64 1, .str [99, 97, 115, 101], .int .i64 6], .bool true], S) :=
  memo_of Tryz.kSlices_ok (n := 100000) (by kernel_rfl) (by kernel_rfl) (by kernel_rfl)
-- casuist/name.Read: 1769 operations
theorem Tryz.awm11 : ∀ S, callW Tryz.E 25 [.str [108, 111, 119, 101, 114, 32, 99, 97, 115, 101]] S = some (.tup [.slice .sh 2 [.int .i64 1, .str [108, 111, 119, 101, 114], .int .i64 0, .int .i64 1, .str [99, 97, 115, 101], .int .i64 6], .bool true], S) :=
  memo_of Tryz.kSlices_ok (n := 100000) (by kernel_rfl) (by kernel_rfl) (by kernel_rfl)
-- casuist/name.Read: 2141 operations
theorem Tryz.awm12 : ∀ S, callW Tryz.E 25 [.str [115, 116, 114, 105, 110, 103, 32, 114, 101, 118, 101, 114, 115, 101]] S = some (.tup [.slice .sh 2 [.int .i64 1, .str [115, 116, 114, 105, 110, 103], .int .i64 0, .int .i64 1, .str [114, 101, 118, 101, 114, 115, 101], .int .i64 7], .bool true], S) :=
  memo_of Tryz.kSlices_ok (n := 100000) (by kernel_rfl) (by kernel_rfl) (by kernel_rfl)
-- casuist/name.Read: 2327 operations
theorem Tryz.awm13 : ∀ S, callW Tryz.E 25 [.str [115, 117, 98, 115, 116, 114, 105, 110, 103, 32, 98, 101, 102, 111, 114, 101]] S = some (.tup [.slice .sh 2 [.int .i64 1, .str [115, 117, 98, 115, 116, 114, 105, 110, 103], .int .i64 0, .int .i64 1, .str [98, 101, 102, 111, 114, 101], .int .i64 10], .bool true], S) :=
  memo_of Tryz.kSlices_ok (n := 100000) (by kernel_rfl) (by kernel_rfl) (by kernel_rfl)
-- casuist/name.Read: 2234 operations
theorem Tryz.awm14 : ∀ S, callW Tryz.E 25 [.str [115, 117, 98, 115, 116, 114, 105, 110, 103, 32, 97, 102, 116, 101, 114]] S = some (.tup [.slice .sh 2 [.int .i64 1, .str [115, 117, 98, 115, 116, 114, 105, 110, 103], .int .i64 0, .int .i64 1, .str [97, 102, 116, 101, 114], .int .i64 10], .bool true], S) :=
  memo_of Tryz.kSlices_ok (n := 100000) (by kernel_rfl) (by kernel_rfl) (by kernel_rfl)
-- casuist/name.Read: 1239 operations
theorem Tryz.awm15 : ∀ S, callW Tryz.E 25 [.str [99, 111, 110, 116, 97, 105, 110, 115]] S = some (.tup [.slice .sh 1 [.int .i64 1, .str [99, 111, 110, 116, 97, 105, 110, 115], .int .i64 0], .bool true], S) :=
  memo_of Tryz.kSlices_ok (n := 100000) (by kernel_rfl) (by kernel_rfl) (by kernel_rfl)
-- casuist/name.Read: 1862 operations
theorem Tryz.awm16 : ∀ S, callW Tryz.E 25 [.str [115, 116, 97, 114, 116, 115, 32, 119, 105, 116, 104]] S = some (.tup [.slice .sh 2 [.int .i64 1, .str [115, 116, 97, 114, 116, 115], .int .i64 0, .int .i64 1, .str [119, 105, 116, 104], .int .i64 7], .bool true], S) :=
  memo_of Tryz.kSlices_ok (n := 100000) (by kernel_rfl) (by kernel_rfl) (by kernel_rfl)
-- casuist/name.Read: 1780 operations
theorem Tryz.awm17 : ∀ S, callW Tryz.E 25 [.str [101, 110, 100, 115, 32, 119, 105, 116, 104]] S = some (.tup [.slice .sh 2 [.int .i64 1, .str [101, 110, 100, 115], .int .i64 0, .int .i64 1, .str [119, 105, 116, 104], .int .i64 5], .bool true], S) :=
  memo_of Tryz.kSlices_ok (n := 100000) (by kernel_rfl) (by kernel_rfl) (by kernel_rfl)
-- casuist/name.Read: 960 operations
theorem Tryz.awm18 : ∀ S, callW Tryz.E 25 [.str [115, 112, 108, 105, 116]] S = some (.tup [.slice .sh 1 [.int .i64 1, .str [115, 112, 108, 105, 116], .int .i64 0], .bool true], S) :=
  memo_of Tryz.kSlices_ok (n := 100000) (by kernel_rfl) (by kernel_rfl) (by kernel_rfl)
-- casuist/name.Read: 1146 operations
theorem Tryz.awm19 : ∀ S, callW Tryz.E 25 [.str [114, 101, 112, 108, 97, 99, 101]] S = some (.tup [.slice .sh 1 [.int .i64 1, .str [114, 101, 112, 108, 97, 99, 101], .int .i64 0], .bool true], S) :=
  memo_of Tryz.kSlices_ok (n := 100000) (by kernel_rfl) (by kernel_rfl) (by kernel_rfl)
-- casuist/name.Read: 1862 operations
theorem Tryz.awm20 : ∀ S, callW Tryz.E 25 [.str [115, 116, 114, 105, 110, 103, 32, 106, 111, 105, 110]] S = some (.tup [.slice .sh 2 [.int .i64 1, .str [115, 116, 114, 105, 110, 103], .int .i64 0, .int .i64 1, .str [106, 111, 105, 110], .int .i64 7], .bool true], S) :=
  memo_of Tryz.kSlices_ok (n := 100000) (by kernel_rfl) (by kernel_rfl) (by kernel_rfl)
-- casuist/name.Read: 2048 operations
theorem Tryz.awm21 : ∀ S, callW Tryz.E 25 [.str [108, 105, 115, 116, 32, 99, 111, 110, 116, 97, 105, 110, 115]] S = some (.tup [.slice .sh 2 [.int .i64 1, .str [108, 105, 115, 116], .int .i64 0, .int .i64 1, .str [99, 111, 110, 116, 97, 105, 110, 115], .int .i64 5], .bool true], S) :=
  memo_of Tryz.kSlices_ok (n := 100000) (by kernel_rfl) (by kernel_rfl) (by kernel_rfl)
-- casuist/name.Read: 960 operations
theorem Tryz.awm22 : ∀ S, callW Tryz.E 25 [.str [99, 111, 117, 110, 116]] S = some (.tup [.slice .sh 1 [.int .i64 1, .str [99, 111, 117, 110, 116], .int .i64 0], .bool true], S) :=
  memo_of Tryz.kSlices_ok (n := 100000) (by kernel_rfl) (by kernel_rfl) (by kernel_rfl)
-- casuist/name.Read: 774 operations
theorem Tryz.awm23 : ∀ S, callW Tryz.E 25 [.str [109, 105, 110]] S = some (.tup [.slice .sh 1 [.int .i64 1, .str [109, 105, 110], .int .i64 0], .bool true], S) :=
  memo_of Tryz.kSlices_ok (n := 100000) (by kernel_rfl) (by kernel_rfl) (by kernel_rfl)
-- casuist/name.Read: 774 operations
theorem Tryz.awm24 : ∀ S, callW Tryz.E 25 [.str [109, 97, 120]] S = some (.tup [.slice .sh 1 [.int .i64 1, .str [109, 97, 120], .int .i64 0], .bool true], S) :=
  memo_of Tryz.kSlices_ok (n := 100000) (by kernel_rfl) (by kernel_rfl) (by kernel_rfl)
-- casuist/name.Read: 774 operations
theorem Tryz.awm25 : ∀ S, callW Tryz.E 25 [.str [115, 117, 109]] S = some (.tup [.slice .sh 1 [.int .i64 1, .str [115, 117, 109], .int .i64 0], .bool true], S) :=
  memo_of Tryz.kSlices_ok (n := 100000) (by kernel_rfl) (by kernel_rfl) (by kernel_rfl)
-- casuist/name.Read: 867 operations
theorem Tryz.awm26 : ∀ S, callW Tryz.E 25 [.str [109, 101, 97, 110]] S = some (.tup [.slice .sh 1 [.int .i64 1, .str [109, 101, 97, 110], .int .i64 0], .bool true], S) :=
  memo_of Tryz.kSlices_ok (n := 100000) (by kernel_rfl) (by kernel_rfl) (by kernel_rfl)

end Go.Proofs
