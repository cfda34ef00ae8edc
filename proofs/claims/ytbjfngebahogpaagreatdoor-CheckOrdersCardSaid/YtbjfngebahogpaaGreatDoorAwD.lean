/- Closed calls of the seat's program, by the machine. No condition. (Printed by a program of this place: wip/tools/genmemo.py.) -/
import Derived.Test.YtbjfngebahogpaaGreatDoorAmE
import Derived.Test.YtbjfngebahogpaaGreatDoorFnSlices
namespace Go.Proofs
open Go.Am
set_option maxRecDepth 100000

-- casuist/numeral.Read: 6048 operations
theorem Tryz.awm82 : ∀ S, callW Tryz.E 54 [.str [49]] S = some (.tup [.agg [.bool false, .int .u64 0, .int .u64 1, .int .i64 0], .bool true], S) :=
  memo_of Tryz.kSlices_ok (n := 100000) (by kernel_rfl) (by kernel_rfl) (by kernel_rfl)
-- casuist/numeral.Text: 275 operations
theorem Tryz.awm83 : ∀ S, callW Tryz.E 55 [.agg [.bool false, .int .u64 0, .int .u64 1, .int .i64 0]] S = some (.str [49], S) :=
  memo_of Tryz.kSlices_ok (n := 100000) (by kernel_rfl) (by kernel_rfl) (by kernel_rfl)
-- casuist/numeral.Read: 6048 operations
theorem Tryz.awm84 : ∀ S, callW Tryz.E 54 [.str [50]] S = some (.tup [.agg [.bool false, .int .u64 0, .int .u64 2, .int .i64 0], .bool true], S) :=
  memo_of Tryz.kSlices_ok (n := 100000) (by kernel_rfl) (by kernel_rfl) (by kernel_rfl)
-- casuist/numeral.Text: 275 operations
theorem Tryz.awm85 : ∀ S, callW Tryz.E 55 [.agg [.bool false, .int .u64 0, .int .u64 2, .int .i64 0]] S = some (.str [50], S) :=
  memo_of Tryz.kSlices_ok (n := 100000) (by kernel_rfl) (by kernel_rfl) (by kernel_rfl)

end Go.Proofs
