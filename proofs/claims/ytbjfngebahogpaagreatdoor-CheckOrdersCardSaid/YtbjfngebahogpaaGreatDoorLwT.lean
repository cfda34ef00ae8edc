/- Types that are made of numbers, truths, texts, rows alone. No condition. Printed by wip/tools/good.py. -/
import Derived.Test.YtbjfngebahogpaaGreatDoorAmE
import Derived.Test.YtbjfngebahogpaaGreatDoorAmLaw
namespace Go.Proofs
open Go.Am

def Tryz.goodL : List Nat := [3, 4, 5, 9, 22, 28, 29, 31, 33, 34, 35, 37, 41, 43, 88, 181, 183, 184, 249, 251, 257, 258]
def Tryz.good (t : Nat) : Bool := Tryz.goodL.any (Nat.beq t)

set_option maxRecDepth 1000000 in
theorem Tryz.good_all : Tryz.goodL.all (rowOk Tryz.prog Tryz.good) = true := by kernel_rfl
theorem Tryz.good_ok (t : Nat) (h : Tryz.good t = true) : rowOk Tryz.prog Tryz.good t = true := by
  unfold Tryz.good at h
  rw [List.any_eq_true] at h
  obtain ⟨x, hx, he⟩ := h
  rw [nat_beq] at he
  subst he
  exact List.all_eq_true.1 Tryz.good_all t hx

end Go.Proofs
