/- Closed calls of the seat's program, by the machine. No condition. (Printed by a program of this place: wip/tools/genmemo.py.) -/
import Derived.Test.YtbjfngebahogpaaGreatDoorAmE
import Derived.Test.YtbjfngebahogpaaGreatDoorFnSlices
namespace Go.Proofs
open Go.Am
set_option maxRecDepth 100000

-- casuist/name.Read: 1146 operations
theorem Tryz.awm27 : ∀ S, callW Tryz.E 25 [.str [112, 114, 111, 100, 117, 99, 116]] S = some (.tup [.slice .sh 1 [.int .i64 1, .str [112, 114, 111, 100, 117, 99, 116], .int .i64 0], .bool true], S) :=
  memo_of Tryz.kSlices_ok (n := 100000) (by kernel_rfl) (by kernel_rfl) (by kernel_rfl)
-- casuist/name.Read: 1053 operations
theorem Tryz.awm28 : ∀ S, callW Tryz.E 25 [.str [109, 101, 100, 105, 97, 110]] S = some (.tup [.slice .sh 1 [.int .i64 1, .str [109, 101, 100, 105, 97, 110], .int .i64 0], .bool true], S) :=
  memo_of Tryz.kSlices_ok (n := 100000) (by kernel_rfl) (by kernel_rfl) (by kernel_rfl)
-- casuist/name.Read: 1053 operations
theorem Tryz.awm29 : ∀ S, callW Tryz.E 25 [.str [115, 116, 100, 100, 101, 118]] S = some (.tup [.slice .sh 1 [.int .i64 1, .str [115, 116, 100, 100, 101, 118], .int .i64 0], .bool true], S) :=
  memo_of Tryz.kSlices_ok (n := 100000) (by kernel_rfl) (by kernel_rfl) (by kernel_rfl)
-- casuist/name.Read: 867 operations
theorem Tryz.awm30 : ∀ S, callW Tryz.E 25 [.str [109, 111, 100, 101]] S = some (.tup [.slice .sh 1 [.int .i64 1, .str [109, 111, 100, 101], .int .i64 0], .bool true], S) :=
  memo_of Tryz.kSlices_ok (n := 100000) (by kernel_rfl) (by kernel_rfl) (by kernel_rfl)
-- casuist/name.Read: 774 operations
theorem Tryz.awm31 : ∀ S, callW Tryz.E 25 [.str [97, 108, 108]] S = some (.tup [.slice .sh 1 [.int .i64 1, .str [97, 108, 108], .int .i64 0], .bool true], S) :=
  memo_of Tryz.kSlices_ok (n := 100000) (by kernel_rfl) (by kernel_rfl) (by kernel_rfl)
-- casuist/name.Read: 774 operations
theorem Tryz.awm32 : ∀ S, callW Tryz.E 25 [.str [97, 110, 121]] S = some (.tup [.slice .sh 1 [.int .i64 1, .str [97, 110, 121], .int .i64 0], .bool true], S) :=
  memo_of Tryz.kSlices_ok (n := 100000) (by kernel_rfl) (by kernel_rfl) (by kernel_rfl)
-- casuist/name.Read: 1146 operations
theorem Tryz.awm33 : ∀ S, callW Tryz.E 25 [.str [115, 117, 98, 108, 105, 115, 116]] S = some (.tup [.slice .sh 1 [.int .i64 1, .str [115, 117, 98, 108, 105, 115, 116], .int .i64 0], .bool true], S) :=
  memo_of Tryz.kSlices_ok (n := 100000) (by kernel_rfl) (by kernel_rfl) (by kernel_rfl)
-- casuist/name.Read: 1053 operations
theorem Tryz.awm34 : ∀ S, callW Tryz.E 25 [.str [97, 112, 112, 101, 110, 100]] S = some (.tup [.slice .sh 1 [.int .i64 1, .str [97, 112, 112, 101, 110, 100], .int .i64 0], .bool true], S) :=
  memo_of Tryz.kSlices_ok (n := 100000) (by kernel_rfl) (by kernel_rfl) (by kernel_rfl)
-- casuist/name.Read: 1414 operations
theorem Tryz.awm35 : ∀ S, callW Tryz.E 25 [.str [99, 111, 110, 99, 97, 116, 101, 110, 97, 116, 101]] S = some (.tup [.slice .sh 1 [.int .i64 1, .str [99, 111, 110, 99, 97, 116, 101, 110, 97, 116, 101], .int .i64 0], .bool true], S) :=
  memo_of Tryz.kSlices_ok (n := 100000) (by kernel_rfl) (by kernel_rfl) (by kernel_rfl)
-- casuist/name.Read: 960 operations
theorem Tryz.awm36 : ∀ S, callW Tryz.E 25 [.str [117, 110, 105, 111, 110]] S = some (.tup [.slice .sh 1 [.int .i64 1, .str [117, 110, 105, 111, 110], .int .i64 0], .bool true], S) :=
  memo_of Tryz.kSlices_ok (n := 100000) (by kernel_rfl) (by kernel_rfl) (by kernel_rfl)
-- casuist/name.Read: 2048 operations
theorem Tryz.awm37 : ∀ S, callW Tryz.E 25 [.str [105, 110, 115, 101, 114, 116, 32, 98, 101, 102, 111, 114, 101]] S = some (.tup [.slice .sh 2 [.int .i64 1, .str [105, 110, 115, 101, 114, 116], .int .i64 0, .int .i64 1, .str [98, 101, 102, 111, 114, 101], .int .i64 7], .bool true], S) :=
  memo_of Tryz.kSlices_ok (n := 100000) (by kernel_rfl) (by kernel_rfl) (by kernel_rfl)
-- casuist/name.Read: 1955 operations
theorem Tryz.awm38 : ∀ S, callW Tryz.E 25 [.str [108, 105, 115, 116, 32, 114, 101, 112, 108, 97, 99, 101]] S = some (.tup [.slice .sh 2 [.int .i64 1, .str [108, 105, 115, 116], .int .i64 0, .int .i64 1, .str [114, 101, 112, 108, 97, 99, 101], .int .i64 5], .bool true], S) :=
  memo_of Tryz.kSlices_ok (n := 100000) (by kernel_rfl) (by kernel_rfl) (by kernel_rfl)
-- casuist/name.Read: 1053 operations
theorem Tryz.awm39 : ∀ S, callW Tryz.E 25 [.str [114, 101, 109, 111, 118, 101]] S = some (.tup [.slice .sh 1 [.int .i64 1, .str [114, 101, 109, 111, 118, 101], .int .i64 0], .bool true], S) :=
  memo_of Tryz.kSlices_ok (n := 100000) (by kernel_rfl) (by kernel_rfl) (by kernel_rfl)
-- casuist/name.Read: 1146 operations
theorem Tryz.awm40 : ∀ S, callW Tryz.E 25 [.str [114, 101, 118, 101, 114, 115, 101]] S = some (.tup [.slice .sh 1 [.int .i64 1, .str [114, 101, 118, 101, 114, 115, 101], .int .i64 0], .bool true], S) :=
  memo_of Tryz.kSlices_ok (n := 100000) (by kernel_rfl) (by kernel_rfl) (by kernel_rfl)
-- casuist/name.Read: 2234 operations
theorem Tryz.awm41 : ∀ S, callW Tryz.E 25 [.str [100, 105, 115, 116, 105, 110, 99, 116, 32, 118, 97, 108, 117, 101, 115]] S = some (.tup [.slice .sh 2 [.int .i64 1, .str [100, 105, 115, 116, 105, 110, 99, 116], .int .i64 0, .int .i64 1, .str [118, 97, 108, 117, 101, 115], .int .i64 9], .bool true], S) :=
  memo_of Tryz.kSlices_ok (n := 100000) (by kernel_rfl) (by kernel_rfl) (by kernel_rfl)
-- casuist/name.Read: 1146 operations
theorem Tryz.awm42 : ∀ S, callW Tryz.E 25 [.str [102, 108, 97, 116, 116, 101, 110]] S = some (.tup [.slice .sh 1 [.int .i64 1, .str [102, 108, 97, 116, 116, 101, 110], .int .i64 0], .bool true], S) :=
  memo_of Tryz.kSlices_ok (n := 100000) (by kernel_rfl) (by kernel_rfl) (by kernel_rfl)
-- casuist/name.Read: 1687 operations
theorem Tryz.awm43 : ∀ S, callW Tryz.E 25 [.str [105, 110, 100, 101, 120, 32, 111, 102]] S = some (.tup [.slice .sh 2 [.int .i64 1, .str [105, 110, 100, 101, 120], .int .i64 0, .int .i64 1, .str [111, 102], .int .i64 6], .bool true], S) :=
  memo_of Tryz.kSlices_ok (n := 100000) (by kernel_rfl) (by kernel_rfl) (by kernel_rfl)
-- casuist/name.Read: 867 operations
theorem Tryz.awm44 : ∀ S, callW Tryz.E 25 [.str [115, 111, 114, 116]] S = some (.tup [.slice .sh 1 [.int .i64 1, .str [115, 111, 114, 116], .int .i64 0], .bool true], S) :=
  memo_of Tryz.kSlices_ok (n := 100000) (by kernel_rfl) (by kernel_rfl) (by kernel_rfl)
-- casuist/name.Read: 1146 operations
theorem Tryz.awm45 : ∀ S, callW Tryz.E 25 [.str [100, 101, 99, 105, 109, 97, 108]] S = some (.tup [.slice .sh 1 [.int .i64 1, .str [100, 101, 99, 105, 109, 97, 108], .int .i64 0], .bool true], S) :=
  memo_of Tryz.kSlices_ok (n := 100000) (by kernel_rfl) (by kernel_rfl) (by kernel_rfl)
-- casuist/name.Read: 1687 operations
theorem Tryz.awm46 : ∀ S, callW Tryz.E 25 [.str [114, 111, 117, 110, 100, 32, 117, 112]] S = some (.tup [.slice .sh 2 [.int .i64 1, .str [114, 111, 117, 110, 100], .int .i64 0, .int .i64 1, .str [117, 112], .int .i64 6], .bool true], S) :=
  memo_of Tryz.kSlices_ok (n := 100000) (by kernel_rfl) (by kernel_rfl) (by kernel_rfl)
-- casuist/name.Read: 1769 operations
theorem Tryz.awm47 : ∀ S, callW Tryz.E 25 [.str [114, 111, 117, 110, 100, 32, 100, 111, 119, 110]] S = some (.tup [.slice .sh 2 [.int .i64 1, .str [114, 111, 117, 110, 100], .int .i64 0, .int .i64 1, .str [100, 111, 119, 110], .int .i64 6], .bool true], S) :=
  memo_of Tryz.kSlices_ok (n := 100000) (by kernel_rfl) (by kernel_rfl) (by kernel_rfl)
-- casuist/name.Read: 2496 operations
theorem Tryz.awm48 : ∀ S, callW Tryz.E 25 [.str [114, 111, 117, 110, 100, 32, 104, 97, 108, 102, 32, 117, 112]] S = some (.tup [.slice .sh 3 [.int .i64 1, .str [114, 111, 117, 110, 100], .int .i64 0, .int .i64 1, .str [104, 97, 108, 102], .int .i64 6, .int .i64 1, .str [117, 112], .int .i64 11], .bool true], S) :=
  memo_of Tryz.kSlices_ok (n := 100000) (by kernel_rfl) (by kernel_rfl) (by kernel_rfl)
-- casuist/name.Read: 2682 operations
theorem Tryz.awm49 : ∀ S, callW Tryz.E 25 [.str [114, 111, 117, 110, 100, 32, 104, 97, 108, 102, 32, 100, 111, 119, 110]] S = some (.tup [.slice .sh 3 [.int .i64 1, .str [114, 111, 117, 110, 100], .int .i64 0, .int .i64 1, .str [104, 97, 108, 102], .int .i64 6, .int .i64 1, .str [100, 111, 119, 110], .int .i64 11], .bool true], S) :=
  memo_of Tryz.kSlices_ok (n := 100000) (by kernel_rfl) (by kernel_rfl) (by kernel_rfl)
-- casuist/name.Read: 960 operations
theorem Tryz.awm50 : ∀ S, callW Tryz.E 25 [.str [102, 108, 111, 111, 114]] S = some (.tup [.slice .sh 1 [.int .i64 1, .str [102, 108, 111, 111, 114], .int .i64 0], .bool true], S) :=
  memo_of Tryz.kSlices_ok (n := 100000) (by kernel_rfl) (by kernel_rfl) (by kernel_rfl)
-- casuist/name.Read: 1146 operations
theorem Tryz.awm51 : ∀ S, callW Tryz.E 25 [.str [99, 101, 105, 108, 105, 110, 103]] S = some (.tup [.slice .sh 1 [.int .i64 1, .str [99, 101, 105, 108, 105, 110, 103], .int .i64 0], .bool true], S) :=
  memo_of Tryz.kSlices_ok (n := 100000) (by kernel_rfl) (by kernel_rfl) (by kernel_rfl)
-- casuist/name.Read: 774 operations
theorem Tryz.awm52 : ∀ S, callW Tryz.E 25 [.str [97, 98, 115]] S = some (.tup [.slice .sh 1 [.int .i64 1, .str [97, 98, 115], .int .i64 0], .bool true], S) :=
  memo_of Tryz.kSlices_ok (n := 100000) (by kernel_rfl) (by kernel_rfl) (by kernel_rfl)
-- casuist/name.Read: 1053 operations
theorem Tryz.awm53 : ∀ S, callW Tryz.E 25 [.str [109, 111, 100, 117, 108, 111]] S = some (.tup [.slice .sh 1 [.int .i64 1, .str [109, 111, 100, 117, 108, 111], .int .i64 0], .bool true], S) :=
  memo_of Tryz.kSlices_ok (n := 100000) (by kernel_rfl) (by kernel_rfl) (by kernel_rfl)

end Go.Proofs
