/- THE LAW CheckOrders: its card. -/
import Derived.Test.YtbjfngebahogpaaGreatDoorLwOrdersS
import Derived.Test.YtbjfngebahogpaaGreatDoorCards
import Derived.Test.YtbjfngebahogpaaGreatDoorTie
namespace Go.Proofs.YtbjfngebahogpaaGreatDoor.checkOrders
open Go.ChangeShapes Go.WideShapes Go.ChangeAt Go.RowKit Go.Am

theorem plain (f : FuncId) (fn : Func) (hf : Tryz.pinned.checked.prog.funcNamed "casuist/casuistlaw26.CheckOrders" = some f) (hfn : Tryz.pinned.checked.prog.funcs[f]? = some fn) :
    true = Tryz.pinned.checked.prog.looks [] ∧ ∀ (j : Nat) t, fn.params[j]? = some t → Tryz.pinned.checked.prog.wantsStandIn t = false := by
  obtain rfl : f = 3 := Option.some.inj ((show Tryz.prog.funcNamed "casuist/casuistlaw26.CheckOrders" = some 3 by kernel_rfl).symm.trans hf) |>.symm
  obtain rfl : fn = Tryz.f3 := (Option.some.inj (Tryz.func3.symm.trans hfn)).symm
  refine ⟨by kernel_rfl, fun j t ht => ?_⟩
  have hall : Tryz.f3.params.toList.all (fun t => !Tryz.prog.wantsStandIn t) = true := by kernel_rfl
  have := List.all_eq_true.1 hall t (by simpa using Array.mem_of_getElem? ht)
  exact (by simpa using this : Tryz.prog.wantsStandIn t = false)

theorem card : Rows.CheckOrdersCardSaid :=
  Claim7.holds_tied_plain_at .later [] _ _ _ _ said (fun _ h => by cases h) (by kernel_rfl) (fun _ h => by cases h) checkOrders_row_tie rfl ⟨rfl, rfl⟩ (by kernel_rfl) rfl plain (by kernel_rfl)
end Go.Proofs.YtbjfngebahogpaaGreatDoor.checkOrders
