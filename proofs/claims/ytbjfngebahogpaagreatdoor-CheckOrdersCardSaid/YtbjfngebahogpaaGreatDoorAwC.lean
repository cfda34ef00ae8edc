/- Closed calls of the seat's program, by the machine. No condition. (Printed by a program of this place: wip/tools/genmemo.py.) -/
import Derived.Test.YtbjfngebahogpaaGreatDoorAmE
import Derived.Test.YtbjfngebahogpaaGreatDoorFnSlices
namespace Go.Proofs
open Go.Am
set_option maxRecDepth 100000

-- casuist/name.Read: 867 operations
theorem Tryz.awm54 : ∀ S, callW Tryz.E 25 [.str [115, 113, 114, 116]] S = some (.tup [.slice .sh 1 [.int .i64 1, .str [115, 113, 114, 116], .int .i64 0], .bool true], S) :=
  memo_of Tryz.kSlices_ok (n := 100000) (by kernel_rfl) (by kernel_rfl) (by kernel_rfl)
-- casuist/name.Read: 867 operations
theorem Tryz.awm55 : ∀ S, callW Tryz.E 25 [.str [101, 118, 101, 110]] S = some (.tup [.slice .sh 1 [.int .i64 1, .str [101, 118, 101, 110], .int .i64 0], .bool true], S) :=
  memo_of Tryz.kSlices_ok (n := 100000) (by kernel_rfl) (by kernel_rfl) (by kernel_rfl)
-- casuist/name.Read: 774 operations
theorem Tryz.awm56 : ∀ S, callW Tryz.E 25 [.str [111, 100, 100]] S = some (.tup [.slice .sh 1 [.int .i64 1, .str [111, 100, 100], .int .i64 0], .bool true], S) :=
  memo_of Tryz.kSlices_ok (n := 100000) (by kernel_rfl) (by kernel_rfl) (by kernel_rfl)
-- casuist/name.Read: 1053 operations
theorem Tryz.awm57 : ∀ S, callW Tryz.E 25 [.str [98, 101, 102, 111, 114, 101]] S = some (.tup [.slice .sh 1 [.int .i64 1, .str [98, 101, 102, 111, 114, 101], .int .i64 0], .bool true], S) :=
  memo_of Tryz.kSlices_ok (n := 100000) (by kernel_rfl) (by kernel_rfl) (by kernel_rfl)
-- casuist/name.Read: 960 operations
theorem Tryz.awm58 : ∀ S, callW Tryz.E 25 [.str [97, 102, 116, 101, 114]] S = some (.tup [.slice .sh 1 [.int .i64 1, .str [97, 102, 116, 101, 114], .int .i64 0], .bool true], S) :=
  memo_of Tryz.kSlices_ok (n := 100000) (by kernel_rfl) (by kernel_rfl) (by kernel_rfl)
-- casuist/name.Read: 960 operations
theorem Tryz.awm59 : ∀ S, callW Tryz.E 25 [.str [109, 101, 101, 116, 115]] S = some (.tup [.slice .sh 1 [.int .i64 1, .str [109, 101, 101, 116, 115], .int .i64 0], .bool true], S) :=
  memo_of Tryz.kSlices_ok (n := 100000) (by kernel_rfl) (by kernel_rfl) (by kernel_rfl)
-- casuist/name.Read: 1501 operations
theorem Tryz.awm60 : ∀ S, callW Tryz.E 25 [.str [109, 101, 116, 32, 98, 121]] S = some (.tup [.slice .sh 2 [.int .i64 1, .str [109, 101, 116], .int .i64 0, .int .i64 1, .str [98, 121], .int .i64 4], .bool true], S) :=
  memo_of Tryz.kSlices_ok (n := 100000) (by kernel_rfl) (by kernel_rfl) (by kernel_rfl)
-- casuist/name.Read: 1239 operations
theorem Tryz.awm61 : ∀ S, callW Tryz.E 25 [.str [111, 118, 101, 114, 108, 97, 112, 115]] S = some (.tup [.slice .sh 1 [.int .i64 1, .str [111, 118, 101, 114, 108, 97, 112, 115], .int .i64 0], .bool true], S) :=
  memo_of Tryz.kSlices_ok (n := 100000) (by kernel_rfl) (by kernel_rfl) (by kernel_rfl)
-- casuist/name.Read: 2234 operations
theorem Tryz.awm62 : ∀ S, callW Tryz.E 25 [.str [111, 118, 101, 114, 108, 97, 112, 115, 32, 98, 101, 102, 111, 114, 101]] S = some (.tup [.slice .sh 2 [.int .i64 1, .str [111, 118, 101, 114, 108, 97, 112, 115], .int .i64 0, .int .i64 1, .str [98, 101, 102, 111, 114, 101], .int .i64 9], .bool true], S) :=
  memo_of Tryz.kSlices_ok (n := 100000) (by kernel_rfl) (by kernel_rfl) (by kernel_rfl)
-- casuist/name.Read: 2141 operations
theorem Tryz.awm63 : ∀ S, callW Tryz.E 25 [.str [111, 118, 101, 114, 108, 97, 112, 115, 32, 97, 102, 116, 101, 114]] S = some (.tup [.slice .sh 2 [.int .i64 1, .str [111, 118, 101, 114, 108, 97, 112, 115], .int .i64 0, .int .i64 1, .str [97, 102, 116, 101, 114], .int .i64 9], .bool true], S) :=
  memo_of Tryz.kSlices_ok (n := 100000) (by kernel_rfl) (by kernel_rfl) (by kernel_rfl)
-- casuist/name.Read: 1239 operations
theorem Tryz.awm64 : ∀ S, callW Tryz.E 25 [.str [102, 105, 110, 105, 115, 104, 101, 115]] S = some (.tup [.slice .sh 1 [.int .i64 1, .str [102, 105, 110, 105, 115, 104, 101, 115], .int .i64 0], .bool true], S) :=
  memo_of Tryz.kSlices_ok (n := 100000) (by kernel_rfl) (by kernel_rfl) (by kernel_rfl)
-- casuist/name.Read: 1862 operations
theorem Tryz.awm65 : ∀ S, callW Tryz.E 25 [.str [102, 105, 110, 105, 115, 104, 101, 100, 32, 98, 121]] S = some (.tup [.slice .sh 2 [.int .i64 1, .str [102, 105, 110, 105, 115, 104, 101, 100], .int .i64 0, .int .i64 1, .str [98, 121], .int .i64 9], .bool true], S) :=
  memo_of Tryz.kSlices_ok (n := 100000) (by kernel_rfl) (by kernel_rfl) (by kernel_rfl)
-- casuist/name.Read: 1239 operations
theorem Tryz.awm66 : ∀ S, callW Tryz.E 25 [.str [105, 110, 99, 108, 117, 100, 101, 115]] S = some (.tup [.slice .sh 1 [.int .i64 1, .str [105, 110, 99, 108, 117, 100, 101, 115], .int .i64 0], .bool true], S) :=
  memo_of Tryz.kSlices_ok (n := 100000) (by kernel_rfl) (by kernel_rfl) (by kernel_rfl)
-- casuist/name.Read: 1053 operations
theorem Tryz.awm67 : ∀ S, callW Tryz.E 25 [.str [100, 117, 114, 105, 110, 103]] S = some (.tup [.slice .sh 1 [.int .i64 1, .str [100, 117, 114, 105, 110, 103], .int .i64 0], .bool true], S) :=
  memo_of Tryz.kSlices_ok (n := 100000) (by kernel_rfl) (by kernel_rfl) (by kernel_rfl)
-- casuist/name.Read: 1053 operations
theorem Tryz.awm68 : ∀ S, callW Tryz.E 25 [.str [115, 116, 97, 114, 116, 115]] S = some (.tup [.slice .sh 1 [.int .i64 1, .str [115, 116, 97, 114, 116, 115], .int .i64 0], .bool true], S) :=
  memo_of Tryz.kSlices_ok (n := 100000) (by kernel_rfl) (by kernel_rfl) (by kernel_rfl)
-- casuist/name.Read: 1769 operations
theorem Tryz.awm69 : ∀ S, callW Tryz.E 25 [.str [115, 116, 97, 114, 116, 101, 100, 32, 98, 121]] S = some (.tup [.slice .sh 2 [.int .i64 1, .str [115, 116, 97, 114, 116, 101, 100], .int .i64 0, .int .i64 1, .str [98, 121], .int .i64 8], .bool true], S) :=
  memo_of Tryz.kSlices_ok (n := 100000) (by kernel_rfl) (by kernel_rfl) (by kernel_rfl)
-- casuist/name.Read: 1332 operations
theorem Tryz.awm70 : ∀ S, callW Tryz.E 25 [.str [99, 111, 105, 110, 99, 105, 100, 101, 115]] S = some (.tup [.slice .sh 1 [.int .i64 1, .str [99, 111, 105, 110, 99, 105, 100, 101, 115], .int .i64 0], .bool true], S) :=
  memo_of Tryz.kSlices_ok (n := 100000) (by kernel_rfl) (by kernel_rfl) (by kernel_rfl)
-- casuist/name.Read: 2310 operations
theorem Tryz.awm71 : ∀ S, callW Tryz.E 25 [.str [100, 97, 121, 32, 111, 102, 32, 121, 101, 97, 114]] S = some (.tup [.slice .sh 3 [.int .i64 1, .str [100, 97, 121], .int .i64 0, .int .i64 1, .str [111, 102], .int .i64 4, .int .i64 1, .str [121, 101, 97, 114], .int .i64 7], .bool true], S) :=
  memo_of Tryz.kSlices_ok (n := 100000) (by kernel_rfl) (by kernel_rfl) (by kernel_rfl)
-- casuist/name.Read: 2403 operations
theorem Tryz.awm72 : ∀ S, callW Tryz.E 25 [.str [119, 101, 101, 107, 32, 111, 102, 32, 121, 101, 97, 114]] S = some (.tup [.slice .sh 3 [.int .i64 1, .str [119, 101, 101, 107], .int .i64 0, .int .i64 1, .str [111, 102], .int .i64 5, .int .i64 1, .str [121, 101, 97, 114], .int .i64 8], .bool true], S) :=
  memo_of Tryz.kSlices_ok (n := 100000) (by kernel_rfl) (by kernel_rfl) (by kernel_rfl)
-- casuist/name.Read: 2310 operations
theorem Tryz.awm73 : ∀ S, callW Tryz.E 25 [.str [100, 97, 121, 32, 111, 102, 32, 119, 101, 101, 107]] S = some (.tup [.slice .sh 3 [.int .i64 1, .str [100, 97, 121], .int .i64 0, .int .i64 1, .str [111, 102], .int .i64 4, .int .i64 1, .str [119, 101, 101, 107], .int .i64 7], .bool true], S) :=
  memo_of Tryz.kSlices_ok (n := 100000) (by kernel_rfl) (by kernel_rfl) (by kernel_rfl)
-- casuist/name.Read: 2496 operations
theorem Tryz.awm74 : ∀ S, callW Tryz.E 25 [.str [109, 111, 110, 116, 104, 32, 111, 102, 32, 121, 101, 97, 114]] S = some (.tup [.slice .sh 3 [.int .i64 1, .str [109, 111, 110, 116, 104], .int .i64 0, .int .i64 1, .str [111, 102], .int .i64 6, .int .i64 1, .str [121, 101, 97, 114], .int .i64 9], .bool true], S) :=
  memo_of Tryz.kSlices_ok (n := 100000) (by kernel_rfl) (by kernel_rfl) (by kernel_rfl)
-- casuist/name.Read: 1780 operations
theorem Tryz.awm75 : ∀ S, callW Tryz.E 25 [.str [103, 101, 116, 32, 118, 97, 108, 117, 101]] S = some (.tup [.slice .sh 2 [.int .i64 1, .str [103, 101, 116], .int .i64 0, .int .i64 1, .str [118, 97, 108, 117, 101], .int .i64 4], .bool true], S) :=
  memo_of Tryz.kSlices_ok (n := 100000) (by kernel_rfl) (by kernel_rfl) (by kernel_rfl)
-- casuist/name.Read: 1862 operations
theorem Tryz.awm76 : ∀ S, callW Tryz.E 25 [.str [103, 101, 116, 32, 101, 110, 116, 114, 105, 101, 115]] S = some (.tup [.slice .sh 2 [.int .i64 1, .str [103, 101, 116], .int .i64 0, .int .i64 1, .str [101, 110, 116, 114, 105, 101, 115], .int .i64 4], .bool true], S) :=
  memo_of Tryz.kSlices_ok (n := 100000) (by kernel_rfl) (by kernel_rfl) (by kernel_rfl)
-- casuist/name.Read: 1862 operations
theorem Tryz.awm77 : ∀ S, callW Tryz.E 25 [.str [99, 111, 110, 116, 101, 120, 116, 32, 112, 117, 116]] S = some (.tup [.slice .sh 2 [.int .i64 1, .str [99, 111, 110, 116, 101, 120, 116], .int .i64 0, .int .i64 1, .str [112, 117, 116], .int .i64 8], .bool true], S) :=
  memo_of Tryz.kSlices_ok (n := 100000) (by kernel_rfl) (by kernel_rfl) (by kernel_rfl)
-- casuist/name.Read: 2048 operations
theorem Tryz.awm78 : ∀ S, callW Tryz.E 25 [.str [99, 111, 110, 116, 101, 120, 116, 32, 109, 101, 114, 103, 101]] S = some (.tup [.slice .sh 2 [.int .i64 1, .str [99, 111, 110, 116, 101, 120, 116], .int .i64 0, .int .i64 1, .str [109, 101, 114, 103, 101], .int .i64 8], .bool true], S) :=
  memo_of Tryz.kSlices_ok (n := 100000) (by kernel_rfl) (by kernel_rfl) (by kernel_rfl)
-- casuist/name.Read: 1146 operations
theorem Tryz.awm79 : ∀ S, callW Tryz.E 25 [.str [99, 111, 110, 116, 101, 120, 116]] S = some (.tup [.slice .sh 1 [.int .i64 1, .str [99, 111, 110, 116, 101, 120, 116], .int .i64 0], .bool true], S) :=
  memo_of Tryz.kSlices_ok (n := 100000) (by kernel_rfl) (by kernel_rfl) (by kernel_rfl)
-- casuist/name.Read: 588 operations
theorem Tryz.awm80 : ∀ S, callW Tryz.E 25 [.str [120]] S = some (.tup [.slice .sh 1 [.int .i64 1, .str [120], .int .i64 0], .bool true], S) :=
  memo_of Tryz.kSlices_ok (n := 100000) (by kernel_rfl) (by kernel_rfl) (by kernel_rfl)
-- casuist/name.Read: 867 operations
theorem Tryz.awm81 : ∀ S, callW Tryz.E 25 [.str [105, 116, 101, 109]] S = some (.tup [.slice .sh 1 [.int .i64 1, .str [105, 116, 101, 109], .int .i64 0], .bool true], S) :=
  memo_of Tryz.kSlices_ok (n := 100000) (by kernel_rfl) (by kernel_rfl) (by kernel_rfl)

end Go.Proofs
