/- A world for the witnesses: the listed variables hold what is listed. No condition. -/
import Derived.Test.YtbjfngebahogpaaGreatDoorLwG
import Derived.Deep.DeepWitnessRowRef
import Derived.Deep.DeepHandedRow
namespace Go.Proofs
open Go.Am Go.Proofs.YtbjfngebahogpaaGreatDoor

noncomputable def Tryz.setRow (g : Nat) (vs : Array Value) (h : Array Obj) : Array Obj := h.modify g fun
  | .cells _ t frozen => .cells vs t frozen
  | o => o

def Tryz.valsOf (l : List PV) : Array Value := (l.map fun p => match p with | .int k n => Value.int k n | _ => Go.undef).toArray

noncomputable def Tryz.text (l : List UInt8) : Value := .string ⟨l.toArray⟩

noncomputable def Tryz.laidWorld (os : Os) : World :=
  let w := World.holding Tryz.prog os ⟨#[], #[], []⟩
  let n := w.heap.size
  { w with heap :=
    ((Tryz.setRow 8 (Tryz.valsOf (pvD (H := Unit) Rows.laid_math_bits_deBruijn32tab))
    (Tryz.setRow 9 (Tryz.valsOf (pvD (H := Unit) Rows.laid_math_bits_deBruijn64tab))
    (Tryz.setRow 7 (Tryz.valsOf (pvD (H := Unit) Rows.laid_internal_strconv_uint64pow10))
    (Tryz.setRow 1 (Tryz.valsOf (pvD (H := Unit) Rows.laid_unicode_utf8_acceptRanges))
    (Tryz.setRow 0 (Tryz.valsOf (pvD (H := Unit) Rows.laid_unicode_utf8_first))
    (Tryz.setRow 4 #[.iface 247 (.pointer (some ⟨n, 0, none⟩))]
    (Tryz.setRow 3 #[.iface 247 (.pointer (some ⟨n + 1, 0, none⟩))]
      w.heap))))))).push (.cells #[Tryz.text [118, 97, 108, 117, 101, 32, 111, 117, 116, 32, 111, 102, 32, 114, 97, 110, 103, 101]] 249 (0, 0))).push (.cells #[Tryz.text [105, 110, 118, 97, 108, 105, 100, 32, 115, 121, 110, 116, 97, 120]] 249 (0, 0)) }

set_option maxRecDepth 1000000 in
theorem Tryz.laidw_met (os : Os) (args : Array Value) : laidMet Tryz.prog Tryz.laidL ((Tryz.laidWorld os).forCall (fun _ _ => 0) ⟨#[], args, []⟩).memory :=
  laidMet_of_run' 8 (by kernel_rfl) (by kernel_rfl)

set_option maxRecDepth 1000000 in
theorem Tryz.laidw_metH (os : Os) (args : Array Value) : laidMetH Tryz.prog Tryz.laidL ((Tryz.laidWorld os).forCall (fun _ _ => 0) ⟨#[], args, []⟩).memory := by
  unfold laidMetH
  rw [Tryz.noHandle]
  exact Tryz.laidw_met os args

set_option maxRecDepth 1000000 in
theorem Tryz.laidw_vars (os : Os) (args : Array Value) : ((Tryz.laidWorld os).forCall (fun _ _ => 0) ⟨#[], args, []⟩).variablesRefB Tryz.prog = true := by kernel_rfl

set_option maxRecDepth 1000000 in
theorem Tryz.laidw_rest (os : Os) (args : Array Value) : (((Tryz.laidWorld os).forCall (fun _ _ => 0) ⟨#[], args, []⟩).heap.toList.drop Tryz.prog.globals.size).take ((begin Tryz.prog (fun _ _ => 0) default).world.heap.size - Tryz.prog.globals.size) =
      (begin Tryz.prog (fun _ _ => 0) default).world.heap.toList.drop Tryz.prog.globals.size := by kernel_rfl

theorem Tryz.own : ownKnob Tryz.prog.godebug = none := by kernel_rfl
theorem Tryz.laidOut : laidOutB Tryz.prog = true := by kernel_rfl

end Go.Proofs
