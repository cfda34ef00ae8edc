/- What the listed variables hold, the machine knows. No condition. -/
import Derived.Test.YtbjfngebahogpaaGreatDoorLwT
import Derived.Test.YtbjfngebahogpaaGreatDoorRows
import Derived.LaidLaws
namespace Go.Proofs
open Go.Am Go.Proofs.YtbjfngebahogpaaGreatDoor

theorem Tryz.star : "*" ++ "errors.errorString" = "*errors.errorString" := by decide
theorem Tryz.rowErr (u : TypeId) (h : Tryz.prog.typeName? 3 u = some "*errors.errorString") : u = 247 :=
  typeName_ptr_named (nm := "errors.errorString") (by rw [Tryz.star]; kernel_rfl) (by kernel_rfl) (by decide) u (by rw [Tryz.star]; exact h)

def Tryz.laidL : List (String × DataW Unit) := [("math/bits.deBruijn32tab", Rows.laid_math_bits_deBruijn32tab), ("math/bits.deBruijn64tab", Rows.laid_math_bits_deBruijn64tab), ("internal/strconv.uint64pow10", Rows.laid_internal_strconv_uint64pow10), ("unicode/utf8.acceptRanges", Rows.laid_unicode_utf8_acceptRanges), ("strconv.ErrRange", Rows.laid_strconv_ErrRange), ("strconv.ErrSyntax", Rows.laid_strconv_ErrSyntax), ("unicode/utf8.first", Rows.laid_unicode_utf8_first)]

theorem Tryz.noHandle : Tryz.laidL.filter (fun x => x.2.handleName?.isSome) = [] := by kernel_rfl

theorem Tryz.laid_met {W : World} (h : laidMetH Tryz.prog Tryz.laidL W) : laidMet Tryz.prog Tryz.laidL W := by
  unfold laidMetH at h
  rw [Tryz.noHandle] at h
  exact h

theorem gone_cast {sg : Nat → Nat → Option Value} {g : Nat} {l m : List PV} (h : GOne sg g l) (e : l = m) : GOne sg g m := e ▸ h

set_option maxRecDepth 1000000 in
theorem Tryz.globs {W : World} (h : laidMetH Tryz.prog Tryz.laidL W) : GRel Tryz.E (sgOf W) := by
  have h' := Tryz.laid_met h
  intro g l hl
  show GOne (sgOf W) g l
  simp only [Tryz.E, Tryz.glb, cond_eq_ite, nat_beq] at hl
  split at hl
  · rename_i e; subst e; cases hl
    exact gone_cast (gone_row (name := "unicode/utf8.acceptRanges") (t := ((Tryz.prog.globals[1]?).map (·.type)).getD 0) Tryz.good_ok (by kernel_rfl) (by kernel_rfl) (by kernel_rfl) (List.mem_of_getElem? (i := 3) rfl) h') (by kernel_rfl)
  split at hl
  · rename_i e; subst e; cases hl
    exact gone_cast (gone_row (name := "unicode/utf8.first") (t := ((Tryz.prog.globals[0]?).map (·.type)).getD 0) Tryz.good_ok (by kernel_rfl) (by kernel_rfl) (by kernel_rfl) (List.mem_of_getElem? (i := 6) rfl) h') (by kernel_rfl)
  split at hl
  · rename_i e; subst e; cases hl
    exact gone_cast (gone_row (name := "internal/strconv.uint64pow10") (t := ((Tryz.prog.globals[7]?).map (·.type)).getD 0) Tryz.good_ok (by kernel_rfl) (by kernel_rfl) (by kernel_rfl) (List.mem_of_getElem? (i := 2) rfl) h') (by kernel_rfl)
  split at hl
  · rename_i e; subst e; cases hl
    exact gone_cast (gone_iface (name := "strconv.ErrSyntax") Tryz.good_ok (by kernel_rfl) (by kernel_rfl) Tryz.underlying111 Tryz.rowErr Tryz.underlying247 (by kernel_rfl) (by kernel_rfl) (List.mem_of_getElem? (i := 5) rfl) h') (by kernel_rfl)
  split at hl
  · rename_i e; subst e; cases hl
    exact gone_cast (gone_iface (name := "strconv.ErrRange") Tryz.good_ok (by kernel_rfl) (by kernel_rfl) Tryz.underlying111 Tryz.rowErr Tryz.underlying247 (by kernel_rfl) (by kernel_rfl) (List.mem_of_getElem? (i := 4) rfl) h') (by kernel_rfl)
  · cases hl

end Go.Proofs
