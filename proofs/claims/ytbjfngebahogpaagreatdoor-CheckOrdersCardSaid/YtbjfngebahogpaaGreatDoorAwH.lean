/- Closed calls of the seat's program, by the machine. No condition. (Printed by a program of this place: wip/tools/genmemo.py.) -/
import Derived.Test.YtbjfngebahogpaaGreatDoorAmE
import Derived.Test.YtbjfngebahogpaaGreatDoorFnSlices
import Derived.Test.YtbjfngebahogpaaGreatDoorAwA
import Derived.Test.YtbjfngebahogpaaGreatDoorAwB
import Derived.Test.YtbjfngebahogpaaGreatDoorAwC
import Derived.Test.YtbjfngebahogpaaGreatDoorAwD
import Derived.Test.YtbjfngebahogpaaGreatDoorAwM
import Derived.Test.YtbjfngebahogpaaGreatDoorAwE
namespace Go.Proofs
open Go.Am
set_option maxRecDepth 100000

noncomputable def Tryz.awT925 : List (List PV × PV) := [([.str [115, 116, 114, 105, 110, 103]], .tup [.slice .sh 1 [.int .i64 1, .str [115, 116, 114, 105, 110, 103], .int .i64 0], .bool true]),
  ([.str [110, 117, 109, 98, 101, 114]], .tup [.slice .sh 1 [.int .i64 1, .str [110, 117, 109, 98, 101, 114], .int .i64 0], .bool true]),
  ([.str [100, 97, 116, 101]], .tup [.slice .sh 1 [.int .i64 1, .str [100, 97, 116, 101], .int .i64 0], .bool true]),
  ([.str [116, 105, 109, 101]], .tup [.slice .sh 1 [.int .i64 1, .str [116, 105, 109, 101], .int .i64 0], .bool true]),
  ([.str [100, 97, 116, 101, 32, 97, 110, 100, 32, 116, 105, 109, 101]], .tup [.slice .sh 3 [.int .i64 1, .str [100, 97, 116, 101], .int .i64 0, .int .i64 1, .str [97, 110, 100], .int .i64 5, .int .i64 1, .str [116, 105, 109, 101], .int .i64 9], .bool true]),
  ([.str [100, 117, 114, 97, 116, 105, 111, 110]], .tup [.slice .sh 1 [.int .i64 1, .str [100, 117, 114, 97, 116, 105, 111, 110], .int .i64 0], .bool true]),
  ([.str [121, 101, 97, 114, 115, 32, 97, 110, 100, 32, 109, 111, 110, 116, 104, 115, 32, 100, 117, 114, 97, 116, 105, 111, 110]], .tup [.slice .sh 4 [.int .i64 1, .str [121, 101, 97, 114, 115], .int .i64 0, .int .i64 1, .str [97, 110, 100], .int .i64 6, .int .i64 1, .str [109, 111, 110, 116, 104, 115], .int .i64 10, .int .i64 1, .str [100, 117, 114, 97, 116, 105, 111, 110], .int .i64 17], .bool true]),
  ([.str [110, 111, 116]], .tup [.slice .sh 1 [.int .i64 1, .str [110, 111, 116], .int .i64 0], .bool true]),
  ([.str [115, 117, 98, 115, 116, 114, 105, 110, 103]], .tup [.slice .sh 1 [.int .i64 1, .str [115, 117, 98, 115, 116, 114, 105, 110, 103], .int .i64 0], .bool true]),
  ([.str [115, 116, 114, 105, 110, 103, 32, 108, 101, 110, 103, 116, 104]], .tup [.slice .sh 2 [.int .i64 1, .str [115, 116, 114, 105, 110, 103], .int .i64 0, .int .i64 1, .str [108, 101, 110, 103, 116, 104], .int .i64 7], .bool true]),
  ([.str [117, 112, 112, 101, 114, 32, 99, 97, 115, 101]], .tup [.slice .sh 2 [.int .i64 1, .str [117, 112, 112, 101, 114], .int .i64 0, .int .i64 1, .str [99, 97, 115, 101], .int .i64 6], .bool true]),
  ([.str [108, 111, 119, 101, 114, 32, 99, 97, 115, 101]], .tup [.slice .sh 2 [.int .i64 1, .str [108, 111, 119, 101, 114], .int .i64 0, .int .i64 1, .str [99, 97, 115, 101], .int .i64 6], .bool true]),
  ([.str [115, 116, 114, 105, 110, 103, 32, 114, 101, 118, 101, 114, 115, 101]], .tup [.slice .sh 2 [.int .i64 1, .str [115, 116, 114, 105, 110, 103], .int .i64 0, .int .i64 1, .str [114, 101, 118, 101, 114, 115, 101], .int .i64 7], .bool true]),
  ([.str [115, 117, 98, 115, 116, 114, 105, 110, 103, 32, 98, 101, 102, 111, 114, 101]], .tup [.slice .sh 2 [.int .i64 1, .str [115, 117, 98, 115, 116, 114, 105, 110, 103], .int .i64 0, .int .i64 1, .str [98, 101, 102, 111, 114, 101], .int .i64 10], .bool true]),
  ([.str [115, 117, 98, 115, 116, 114, 105, 110, 103, 32, 97, 102, 116, 101, 114]], .tup [.slice .sh 2 [.int .i64 1, .str [115, 117, 98, 115, 116, 114, 105, 110, 103], .int .i64 0, .int .i64 1, .str [97, 102, 116, 101, 114], .int .i64 10], .bool true]),
  ([.str [99, 111, 110, 116, 97, 105, 110, 115]], .tup [.slice .sh 1 [.int .i64 1, .str [99, 111, 110, 116, 97, 105, 110, 115], .int .i64 0], .bool true]),
  ([.str [115, 116, 97, 114, 116, 115, 32, 119, 105, 116, 104]], .tup [.slice .sh 2 [.int .i64 1, .str [115, 116, 97, 114, 116, 115], .int .i64 0, .int .i64 1, .str [119, 105, 116, 104], .int .i64 7], .bool true]),
  ([.str [101, 110, 100, 115, 32, 119, 105, 116, 104]], .tup [.slice .sh 2 [.int .i64 1, .str [101, 110, 100, 115], .int .i64 0, .int .i64 1, .str [119, 105, 116, 104], .int .i64 5], .bool true]),
  ([.str [115, 112, 108, 105, 116]], .tup [.slice .sh 1 [.int .i64 1, .str [115, 112, 108, 105, 116], .int .i64 0], .bool true]),
  ([.str [114, 101, 112, 108, 97, 99, 101]], .tup [.slice .sh 1 [.int .i64 1, .str [114, 101, 112, 108, 97, 99, 101], .int .i64 0], .bool true]),
  ([.str [115, 116, 114, 105, 110, 103, 32, 106, 111, 105, 110]], .tup [.slice .sh 2 [.int .i64 1, .str [115, 116, 114, 105, 110, 103], .int .i64 0, .int .i64 1, .str [106, 111, 105, 110], .int .i64 7], .bool true]),
  ([.str [108, 105, 115, 116, 32, 99, 111, 110, 116, 97, 105, 110, 115]], .tup [.slice .sh 2 [.int .i64 1, .str [108, 105, 115, 116], .int .i64 0, .int .i64 1, .str [99, 111, 110, 116, 97, 105, 110, 115], .int .i64 5], .bool true]),
  ([.str [99, 111, 117, 110, 116]], .tup [.slice .sh 1 [.int .i64 1, .str [99, 111, 117, 110, 116], .int .i64 0], .bool true]),
  ([.str [109, 105, 110]], .tup [.slice .sh 1 [.int .i64 1, .str [109, 105, 110], .int .i64 0], .bool true]),
  ([.str [109, 97, 120]], .tup [.slice .sh 1 [.int .i64 1, .str [109, 97, 120], .int .i64 0], .bool true]),
  ([.str [115, 117, 109]], .tup [.slice .sh 1 [.int .i64 1, .str [115, 117, 109], .int .i64 0], .bool true]),
  ([.str [109, 101, 97, 110]], .tup [.slice .sh 1 [.int .i64 1, .str [109, 101, 97, 110], .int .i64 0], .bool true]),
  ([.str [112, 114, 111, 100, 117, 99, 116]], .tup [.slice .sh 1 [.int .i64 1, .str [112, 114, 111, 100, 117, 99, 116], .int .i64 0], .bool true]),
  ([.str [109, 101, 100, 105, 97, 110]], .tup [.slice .sh 1 [.int .i64 1, .str [109, 101, 100, 105, 97, 110], .int .i64 0], .bool true]),
  ([.str [115, 116, 100, 100, 101, 118]], .tup [.slice .sh 1 [.int .i64 1, .str [115, 116, 100, 100, 101, 118], .int .i64 0], .bool true]),
  ([.str [109, 111, 100, 101]], .tup [.slice .sh 1 [.int .i64 1, .str [109, 111, 100, 101], .int .i64 0], .bool true]),
  ([.str [97, 108, 108]], .tup [.slice .sh 1 [.int .i64 1, .str [97, 108, 108], .int .i64 0], .bool true]),
  ([.str [97, 110, 121]], .tup [.slice .sh 1 [.int .i64 1, .str [97, 110, 121], .int .i64 0], .bool true]),
  ([.str [115, 117, 98, 108, 105, 115, 116]], .tup [.slice .sh 1 [.int .i64 1, .str [115, 117, 98, 108, 105, 115, 116], .int .i64 0], .bool true]),
  ([.str [97, 112, 112, 101, 110, 100]], .tup [.slice .sh 1 [.int .i64 1, .str [97, 112, 112, 101, 110, 100], .int .i64 0], .bool true]),
  ([.str [99, 111, 110, 99, 97, 116, 101, 110, 97, 116, 101]], .tup [.slice .sh 1 [.int .i64 1, .str [99, 111, 110, 99, 97, 116, 101, 110, 97, 116, 101], .int .i64 0], .bool true]),
  ([.str [117, 110, 105, 111, 110]], .tup [.slice .sh 1 [.int .i64 1, .str [117, 110, 105, 111, 110], .int .i64 0], .bool true]),
  ([.str [105, 110, 115, 101, 114, 116, 32, 98, 101, 102, 111, 114, 101]], .tup [.slice .sh 2 [.int .i64 1, .str [105, 110, 115, 101, 114, 116], .int .i64 0, .int .i64 1, .str [98, 101, 102, 111, 114, 101], .int .i64 7], .bool true]),
  ([.str [108, 105, 115, 116, 32, 114, 101, 112, 108, 97, 99, 101]], .tup [.slice .sh 2 [.int .i64 1, .str [108, 105, 115, 116], .int .i64 0, .int .i64 1, .str [114, 101, 112, 108, 97, 99, 101], .int .i64 5], .bool true]),
  ([.str [114, 101, 109, 111, 118, 101]], .tup [.slice .sh 1 [.int .i64 1, .str [114, 101, 109, 111, 118, 101], .int .i64 0], .bool true]),
  ([.str [114, 101, 118, 101, 114, 115, 101]], .tup [.slice .sh 1 [.int .i64 1, .str [114, 101, 118, 101, 114, 115, 101], .int .i64 0], .bool true]),
  ([.str [100, 105, 115, 116, 105, 110, 99, 116, 32, 118, 97, 108, 117, 101, 115]], .tup [.slice .sh 2 [.int .i64 1, .str [100, 105, 115, 116, 105, 110, 99, 116], .int .i64 0, .int .i64 1, .str [118, 97, 108, 117, 101, 115], .int .i64 9], .bool true]),
  ([.str [102, 108, 97, 116, 116, 101, 110]], .tup [.slice .sh 1 [.int .i64 1, .str [102, 108, 97, 116, 116, 101, 110], .int .i64 0], .bool true]),
  ([.str [105, 110, 100, 101, 120, 32, 111, 102]], .tup [.slice .sh 2 [.int .i64 1, .str [105, 110, 100, 101, 120], .int .i64 0, .int .i64 1, .str [111, 102], .int .i64 6], .bool true]),
  ([.str [115, 111, 114, 116]], .tup [.slice .sh 1 [.int .i64 1, .str [115, 111, 114, 116], .int .i64 0], .bool true]),
  ([.str [100, 101, 99, 105, 109, 97, 108]], .tup [.slice .sh 1 [.int .i64 1, .str [100, 101, 99, 105, 109, 97, 108], .int .i64 0], .bool true]),
  ([.str [114, 111, 117, 110, 100, 32, 117, 112]], .tup [.slice .sh 2 [.int .i64 1, .str [114, 111, 117, 110, 100], .int .i64 0, .int .i64 1, .str [117, 112], .int .i64 6], .bool true]),
  ([.str [114, 111, 117, 110, 100, 32, 100, 111, 119, 110]], .tup [.slice .sh 2 [.int .i64 1, .str [114, 111, 117, 110, 100], .int .i64 0, .int .i64 1, .str [100, 111, 119, 110], .int .i64 6], .bool true]),
  ([.str [114, 111, 117, 110, 100, 32, 104, 97, 108, 102, 32, 117, 112]], .tup [.slice .sh 3 [.int .i64 1, .str [114, 111, 117, 110, 100], .int .i64 0, .int .i64 1, .str [104, 97, 108, 102], .int .i64 6, .int .i64 1, .str [117, 112], .int .i64 11], .bool true]),
  ([.str [114, 111, 117, 110, 100, 32, 104, 97, 108, 102, 32, 100, 111, 119, 110]], .tup [.slice .sh 3 [.int .i64 1, .str [114, 111, 117, 110, 100], .int .i64 0, .int .i64 1, .str [104, 97, 108, 102], .int .i64 6, .int .i64 1, .str [100, 111, 119, 110], .int .i64 11], .bool true]),
  ([.str [102, 108, 111, 111, 114]], .tup [.slice .sh 1 [.int .i64 1, .str [102, 108, 111, 111, 114], .int .i64 0], .bool true]),
  ([.str [99, 101, 105, 108, 105, 110, 103]], .tup [.slice .sh 1 [.int .i64 1, .str [99, 101, 105, 108, 105, 110, 103], .int .i64 0], .bool true]),
  ([.str [97, 98, 115]], .tup [.slice .sh 1 [.int .i64 1, .str [97, 98, 115], .int .i64 0], .bool true]),
  ([.str [109, 111, 100, 117, 108, 111]], .tup [.slice .sh 1 [.int .i64 1, .str [109, 111, 100, 117, 108, 111], .int .i64 0], .bool true]),
  ([.str [115, 113, 114, 116]], .tup [.slice .sh 1 [.int .i64 1, .str [115, 113, 114, 116], .int .i64 0], .bool true]),
  ([.str [101, 118, 101, 110]], .tup [.slice .sh 1 [.int .i64 1, .str [101, 118, 101, 110], .int .i64 0], .bool true]),
  ([.str [111, 100, 100]], .tup [.slice .sh 1 [.int .i64 1, .str [111, 100, 100], .int .i64 0], .bool true]),
  ([.str [98, 101, 102, 111, 114, 101]], .tup [.slice .sh 1 [.int .i64 1, .str [98, 101, 102, 111, 114, 101], .int .i64 0], .bool true]),
  ([.str [97, 102, 116, 101, 114]], .tup [.slice .sh 1 [.int .i64 1, .str [97, 102, 116, 101, 114], .int .i64 0], .bool true]),
  ([.str [109, 101, 101, 116, 115]], .tup [.slice .sh 1 [.int .i64 1, .str [109, 101, 101, 116, 115], .int .i64 0], .bool true]),
  ([.str [109, 101, 116, 32, 98, 121]], .tup [.slice .sh 2 [.int .i64 1, .str [109, 101, 116], .int .i64 0, .int .i64 1, .str [98, 121], .int .i64 4], .bool true]),
  ([.str [111, 118, 101, 114, 108, 97, 112, 115]], .tup [.slice .sh 1 [.int .i64 1, .str [111, 118, 101, 114, 108, 97, 112, 115], .int .i64 0], .bool true]),
  ([.str [111, 118, 101, 114, 108, 97, 112, 115, 32, 98, 101, 102, 111, 114, 101]], .tup [.slice .sh 2 [.int .i64 1, .str [111, 118, 101, 114, 108, 97, 112, 115], .int .i64 0, .int .i64 1, .str [98, 101, 102, 111, 114, 101], .int .i64 9], .bool true]),
  ([.str [111, 118, 101, 114, 108, 97, 112, 115, 32, 97, 102, 116, 101, 114]], .tup [.slice .sh 2 [.int .i64 1, .str [111, 118, 101, 114, 108, 97, 112, 115], .int .i64 0, .int .i64 1, .str [97, 102, 116, 101, 114], .int .i64 9], .bool true]),
  ([.str [102, 105, 110, 105, 115, 104, 101, 115]], .tup [.slice .sh 1 [.int .i64 1, .str [102, 105, 110, 105, 115, 104, 101, 115], .int .i64 0], .bool true]),
  ([.str [102, 105, 110, 105, 115, 104, 101, 100, 32, 98, 121]], .tup [.slice .sh 2 [.int .i64 1, .str [102, 105, 110, 105, 115, 104, 101, 100], .int .i64 0, .int .i64 1, .str [98, 121], .int .i64 9], .bool true]),
  ([.str [105, 110, 99, 108, 117, 100, 101, 115]], .tup [.slice .sh 1 [.int .i64 1, .str [105, 110, 99, 108, 117, 100, 101, 115], .int .i64 0], .bool true]),
  ([.str [100, 117, 114, 105, 110, 103]], .tup [.slice .sh 1 [.int .i64 1, .str [100, 117, 114, 105, 110, 103], .int .i64 0], .bool true]),
  ([.str [115, 116, 97, 114, 116, 115]], .tup [.slice .sh 1 [.int .i64 1, .str [115, 116, 97, 114, 116, 115], .int .i64 0], .bool true]),
  ([.str [115, 116, 97, 114, 116, 101, 100, 32, 98, 121]], .tup [.slice .sh 2 [.int .i64 1, .str [115, 116, 97, 114, 116, 101, 100], .int .i64 0, .int .i64 1, .str [98, 121], .int .i64 8], .bool true]),
  ([.str [99, 111, 105, 110, 99, 105, 100, 101, 115]], .tup [.slice .sh 1 [.int .i64 1, .str [99, 111, 105, 110, 99, 105, 100, 101, 115], .int .i64 0], .bool true]),
  ([.str [100, 97, 121, 32, 111, 102, 32, 121, 101, 97, 114]], .tup [.slice .sh 3 [.int .i64 1, .str [100, 97, 121], .int .i64 0, .int .i64 1, .str [111, 102], .int .i64 4, .int .i64 1, .str [121, 101, 97, 114], .int .i64 7], .bool true]),
  ([.str [119, 101, 101, 107, 32, 111, 102, 32, 121, 101, 97, 114]], .tup [.slice .sh 3 [.int .i64 1, .str [119, 101, 101, 107], .int .i64 0, .int .i64 1, .str [111, 102], .int .i64 5, .int .i64 1, .str [121, 101, 97, 114], .int .i64 8], .bool true]),
  ([.str [100, 97, 121, 32, 111, 102, 32, 119, 101, 101, 107]], .tup [.slice .sh 3 [.int .i64 1, .str [100, 97, 121], .int .i64 0, .int .i64 1, .str [111, 102], .int .i64 4, .int .i64 1, .str [119, 101, 101, 107], .int .i64 7], .bool true]),
  ([.str [109, 111, 110, 116, 104, 32, 111, 102, 32, 121, 101, 97, 114]], .tup [.slice .sh 3 [.int .i64 1, .str [109, 111, 110, 116, 104], .int .i64 0, .int .i64 1, .str [111, 102], .int .i64 6, .int .i64 1, .str [121, 101, 97, 114], .int .i64 9], .bool true]),
  ([.str [103, 101, 116, 32, 118, 97, 108, 117, 101]], .tup [.slice .sh 2 [.int .i64 1, .str [103, 101, 116], .int .i64 0, .int .i64 1, .str [118, 97, 108, 117, 101], .int .i64 4], .bool true]),
  ([.str [103, 101, 116, 32, 101, 110, 116, 114, 105, 101, 115]], .tup [.slice .sh 2 [.int .i64 1, .str [103, 101, 116], .int .i64 0, .int .i64 1, .str [101, 110, 116, 114, 105, 101, 115], .int .i64 4], .bool true]),
  ([.str [99, 111, 110, 116, 101, 120, 116, 32, 112, 117, 116]], .tup [.slice .sh 2 [.int .i64 1, .str [99, 111, 110, 116, 101, 120, 116], .int .i64 0, .int .i64 1, .str [112, 117, 116], .int .i64 8], .bool true]),
  ([.str [99, 111, 110, 116, 101, 120, 116, 32, 109, 101, 114, 103, 101]], .tup [.slice .sh 2 [.int .i64 1, .str [99, 111, 110, 116, 101, 120, 116], .int .i64 0, .int .i64 1, .str [109, 101, 114, 103, 101], .int .i64 8], .bool true]),
  ([.str [99, 111, 110, 116, 101, 120, 116]], .tup [.slice .sh 1 [.int .i64 1, .str [99, 111, 110, 116, 101, 120, 116], .int .i64 0], .bool true]),
  ([.str [120]], .tup [.slice .sh 1 [.int .i64 1, .str [120], .int .i64 0], .bool true]),
  ([.str [105, 116, 101, 109]], .tup [.slice .sh 1 [.int .i64 1, .str [105, 116, 101, 109], .int .i64 0], .bool true])]
theorem Tryz.awT925_ok : AllM Tryz.E 25 Tryz.awT925 := ⟨Tryz.awm0, Tryz.awm1, Tryz.awm2, Tryz.awm3, Tryz.awm4, Tryz.awm5, Tryz.awm6, Tryz.awm7, Tryz.awm8, Tryz.awm9, Tryz.awm10, Tryz.awm11, Tryz.awm12, Tryz.awm13, Tryz.awm14, Tryz.awm15, Tryz.awm16, Tryz.awm17, Tryz.awm18, Tryz.awm19, Tryz.awm20, Tryz.awm21, Tryz.awm22, Tryz.awm23, Tryz.awm24, Tryz.awm25, Tryz.awm26, Tryz.awm27, Tryz.awm28, Tryz.awm29, Tryz.awm30, Tryz.awm31, Tryz.awm32, Tryz.awm33, Tryz.awm34, Tryz.awm35, Tryz.awm36, Tryz.awm37, Tryz.awm38, Tryz.awm39, Tryz.awm40, Tryz.awm41, Tryz.awm42, Tryz.awm43, Tryz.awm44, Tryz.awm45, Tryz.awm46, Tryz.awm47, Tryz.awm48, Tryz.awm49, Tryz.awm50, Tryz.awm51, Tryz.awm52, Tryz.awm53, Tryz.awm54, Tryz.awm55, Tryz.awm56, Tryz.awm57, Tryz.awm58, Tryz.awm59, Tryz.awm60, Tryz.awm61, Tryz.awm62, Tryz.awm63, Tryz.awm64, Tryz.awm65, Tryz.awm66, Tryz.awm67, Tryz.awm68, Tryz.awm69, Tryz.awm70, Tryz.awm71, Tryz.awm72, Tryz.awm73, Tryz.awm74, Tryz.awm75, Tryz.awm76, Tryz.awm77, Tryz.awm78, Tryz.awm79, Tryz.awm80, Tryz.awm81, trivial⟩
noncomputable def Tryz.awT954 : List (List PV × PV) := [([.str [49]], .tup [.agg [.bool false, .int .u64 0, .int .u64 1, .int .i64 0], .bool true]),
  ([.str [50]], .tup [.agg [.bool false, .int .u64 0, .int .u64 2, .int .i64 0], .bool true])]
theorem Tryz.awT954_ok : AllM Tryz.E 54 Tryz.awT954 := ⟨Tryz.awm82, Tryz.awm84, trivial⟩
noncomputable def Tryz.awT955 : List (List PV × PV) := [([.agg [.bool false, .int .u64 0, .int .u64 1, .int .i64 0]], .str [49]),
  ([.agg [.bool false, .int .u64 0, .int .u64 2, .int .i64 0]], .str [50])]
theorem Tryz.awT955_ok : AllM Tryz.E 55 Tryz.awT955 := ⟨Tryz.awm83, Tryz.awm85, trivial⟩
noncomputable def Tryz.awT9 : Memo := fun f => bif Nat.beq f 55 then Tryz.awT955 else (fun f => bif Nat.beq f 54 then Tryz.awT954 else (fun f => bif Nat.beq f 25 then Tryz.awT925 else (fun _ => []) f) f) f
set_option maxRecDepth 100000 in
theorem Tryz.awT9_ok : MemoOk Tryz.E Tryz.awT9 := memo_set (memo_set (memo_set (memo_none) Tryz.awT925_ok) Tryz.awT954_ok) Tryz.awT955_ok
-- casuist/check.Mark: 960 operations
theorem Tryz.awm100 : ∀ S, callW Tryz.E 29 [.agg [.int .i64 17, .str [], .nilslice, .slice .sh 2 [.int .i64 6, .str [120], .nilslice, .nilslice, .nilslice, .bool false, .bool false, .int .i64 3, .str [49], .nilslice, .nilslice, .nilslice, .bool false, .bool false], .nilslice, .bool false, .bool false], .slice .sh 1 [.str [120], .int .i64 10, .slice .sh 1 [.int .i64 3, .nilslice, .nilslice], .nilslice]] S = some (.tup [.agg [.int .i64 17, .str [97, 116], .nilslice, .slice .sh 2 [.int .i64 6, .str [120], .nilslice, .nilslice, .nilslice, .bool false, .bool false, .int .i64 3, .str [49], .nilslice, .nilslice, .nilslice, .bool false, .bool false], .nilslice, .bool false, .bool false], .agg [.int .i64 3, .nilslice, .nilslice], .bool true], S) :=
  memo_of (orK_ok Tryz.kSlices_ok (tabK_ok Tryz.awT9_ok)) (n := 100000) (by kernel_rfl) (by kernel_rfl) (by kernel_rfl)
-- casuist/check.Mark: 1112 operations
theorem Tryz.awm101 : ∀ S, callW Tryz.E 29 [.agg [.int .i64 11, .str [43], .nilslice, .slice .sh 2 [.int .i64 3, .str [49], .nilslice, .nilslice, .nilslice, .bool false, .bool false, .int .i64 4, .str [97], .nilslice, .nilslice, .nilslice, .bool false, .bool false], .nilslice, .bool false, .bool false], .nilslice] S = some (.tup [.agg [.int .i64 0, .str [], .nilslice, .nilslice, .nilslice, .bool false, .bool false], .agg [.int .i64 0, .nilslice, .nilslice], .bool false], S) :=
  memo_of (orK_ok Tryz.kSlices_ok (tabK_ok Tryz.awT9_ok)) (n := 100000) (by kernel_rfl) (by kernel_rfl) (by kernel_rfl)
-- casuist/check.Mark: 976 operations
theorem Tryz.awm102 : ∀ S, callW Tryz.E 29 [.agg [.int .i64 7, .str [], .nilslice, .slice .sh 2 [.int .i64 3, .str [49], .nilslice, .nilslice, .nilslice, .bool false, .bool false, .int .i64 4, .str [97], .nilslice, .nilslice, .nilslice, .bool false, .bool false], .nilslice, .bool false, .bool false], .nilslice] S = some (.tup [.agg [.int .i64 7, .str [], .nilslice, .slice .sh 2 [.int .i64 3, .str [49], .nilslice, .nilslice, .nilslice, .bool false, .bool false, .int .i64 4, .str [97], .nilslice, .nilslice, .nilslice, .bool false, .bool false], .nilslice, .bool false, .bool false], .agg [.int .i64 10, .slice .sh 1 [.int .i64 14, .nilslice, .nilslice], .nilslice], .bool true], S) :=
  memo_of (orK_ok Tryz.kSlices_ok (tabK_ok Tryz.awT9_ok)) (n := 100000) (by kernel_rfl) (by kernel_rfl) (by kernel_rfl)
-- casuist/check.Mark: 1174 operations
theorem Tryz.awm103 : ∀ S, callW Tryz.E 29 [.agg [.int .i64 19, .str [], .nilslice, .slice .sh 3 [.int .i64 1, .str [], .nilslice, .nilslice, .nilslice, .bool false, .bool false, .int .i64 3, .str [49], .nilslice, .nilslice, .nilslice, .bool false, .bool false, .int .i64 3, .str [50], .nilslice, .nilslice, .nilslice, .bool false, .bool false], .nilslice, .bool false, .bool false], .nilslice] S = some (.tup [.agg [.int .i64 19, .str [], .nilslice, .slice .sh 3 [.int .i64 1, .str [], .nilslice, .nilslice, .nilslice, .bool false, .bool false, .int .i64 3, .str [49], .nilslice, .nilslice, .nilslice, .bool false, .bool false, .int .i64 3, .str [50], .nilslice, .nilslice, .nilslice, .bool false, .bool false], .nilslice, .bool false, .bool false], .agg [.int .i64 3, .nilslice, .nilslice], .bool true], S) :=
  memo_of (orK_ok Tryz.kSlices_ok (tabK_ok Tryz.awT9_ok)) (n := 100000) (by kernel_rfl) (by kernel_rfl) (by kernel_rfl)
-- casuist/check.Mark: 1493 operations
theorem Tryz.awm104 : ∀ S, callW Tryz.E 29 [.agg [.int .i64 18, .str [], .nilslice, .slice .sh 2 [.int .i64 6, .str [115, 117, 109], .nilslice, .nilslice, .nilslice, .bool false, .bool false, .int .i64 3, .str [49], .nilslice, .nilslice, .nilslice, .bool false, .bool false], .nilslice, .bool false, .bool false], .nilslice] S = some (.tup [.agg [.int .i64 18, .str [], .nilslice, .slice .sh 2 [.int .i64 6, .str [115, 117, 109], .nilslice, .nilslice, .nilslice, .bool false, .bool false, .int .i64 3, .str [49], .nilslice, .nilslice, .nilslice, .bool false, .bool false], .nilslice, .bool false, .bool false], .agg [.int .i64 3, .nilslice, .nilslice], .bool true], S) :=
  memo_of (orK_ok Tryz.kSlices_ok (tabK_ok Tryz.awT9_ok)) (n := 100000) (by kernel_rfl) (by kernel_rfl) (by kernel_rfl)
-- casuist/check.Mark: 2315 operations
theorem Tryz.awm105 : ∀ S, callW Tryz.E 29 [.agg [.int .i64 18, .str [], .nilslice, .slice .sh 2 [.int .i64 24, .str [], .slice .sh 1 [.str [120]], .slice .sh 1 [.int .i64 11, .str [43], .nilslice, .slice .sh 2 [.int .i64 6, .str [120], .nilslice, .nilslice, .nilslice, .bool false, .bool false, .int .i64 3, .str [49], .nilslice, .nilslice, .nilslice, .bool false, .bool false], .nilslice, .bool false, .bool false], .slice .sh 1 [.int .i64 3, .nilslice, .nilslice], .bool false, .bool false, .int .i64 3, .str [50], .nilslice, .nilslice, .nilslice, .bool false, .bool false], .nilslice, .bool false, .bool false], .nilslice] S = some (.tup [.agg [.int .i64 18, .str [], .nilslice, .slice .sh 2 [.int .i64 24, .str [], .slice .sh 1 [.str [120]], .slice .sh 1 [.int .i64 11, .str [43], .nilslice, .slice .sh 2 [.int .i64 6, .str [120], .nilslice, .nilslice, .nilslice, .bool false, .bool false, .int .i64 3, .str [49], .nilslice, .nilslice, .nilslice, .bool false, .bool false], .nilslice, .bool false, .bool false], .slice .sh 1 [.int .i64 3, .nilslice, .nilslice], .bool false, .bool false, .int .i64 3, .str [50], .nilslice, .nilslice, .nilslice, .bool false, .bool false], .slice .sh 1 [.int .i64 3, .nilslice, .nilslice], .bool false, .bool false], .agg [.int .i64 3, .nilslice, .nilslice], .bool true], S) :=
  memo_of (orK_ok Tryz.kSlices_ok (tabK_ok Tryz.awT9_ok)) (n := 100000) (by kernel_rfl) (by kernel_rfl) (by kernel_rfl)

end Go.Proofs
