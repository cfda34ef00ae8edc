/- strings.Builder's copyCheck, String and Grow in the seat's program: what their code does. No condition. -/
import Derived.Test.YtbjfngebahogpaaGreatDoorAmF
import Derived.Test.YtbjfngebahogpaaGreatDoorAmTab
import Derived.Shelf.RegionOpenPlain
import Derived.Lib.Strings
import Derived.Lib.Slices
import Derived.Lib.Walk
import Derived.Lib.Builder
import Derived.Lib.AppendStr
import Derived.Lib.UnsafeStr
import Derived.Lib.MakeNoZero
import Derived.WalkKit
import Derived.Laws.Externs
import Derived.Laws.IdiomCopy
import Derived.Laws.BitsLemmas
set_option linter.unusedVariables false
namespace Go.Proofs
open Go.Am Go.RowKit

theorem Tryz.lies_builder (n : Nat) (h : 2 ≤ n) : liesAt Tryz.prog Tryz.prog.depth 109 (n / Tryz.prog.cellsOf 109) 0 109 1 = true := by
  have hc : Tryz.prog.cellsOf 109 = 2 := by kernel_rfl
  have hd : Tryz.prog.depth = (2 * (Tryz.prog.types.size + Made.depth) + 1) + 1 := rfl
  rw [hc, hd]
  simp only [liesAt, Bool.or_eq_true]
  left
  rw [hd]
  have : 1 ≤ n / 2 := by omega
  simp [rowAt, hc, this, sameLayout]

theorem swap_heap {w : World} {b : Nat} {vs : Array Value} {t : Nat} {fz : Nat × Nat} (h : w.heap[b]? = some (.cells vs t fz)) (o : Obj) (v : Value) (k : Nat) :
    ((w.setCell ⟨b, k, none⟩ v).alloc o).heap = ((w.alloc o).setCell ⟨b, k, none⟩ v).heap := by
  have hlt := heap_lt h
  apply Array.ext_getElem?
  intro j
  by_cases e : j = b
  · subst e
    rw [alloc_get, setCell_size, if_neg (by omega), setCell_heap h]
    refine (setCell_heap (t := t) (fz := fz) (cs := vs) ?_ v).symm
    rw [alloc_get, if_neg (by omega)]; exact h
  · rw [alloc_get, setCell_size, setCell_other _ e, setCell_other _ e, alloc_get]

theorem Tryz.builder_info : ∃ j, Tryz.prog.info? 109 = some j ∧ j.size = 2 := by
  have h : (Tryz.prog.info? 109).map (·.size) = some 2 := by kernel_rfl
  exact Option.map_eq_some_iff.1 h

set_option maxHeartbeats 1000000 in
set_option maxRecDepth 100000 in
theorem Tryz.copy_used (b : Nat) (w : World) (h0 : w.cell? ⟨b, 0, none⟩ = some (.pointer (some ⟨b, 0, none⟩))) :
    Calls Tryz.prog 118 #[.pointer (some ⟨b, 0, none⟩)] w fun e w' => e = .returned (.tuple #[]) ∧ w' = w := by
  obtain ⟨j, hj, _⟩ := Tryz.builder_info
  go_enter Tryz.func118, Tryz.ntmps118
  go_wp2
  rw [Lib.run_neq_ptr_same w _ Tryz.underlying106 hj]
  go_wp2
  go_end0
  exact ⟨rfl, rfl⟩

set_option maxHeartbeats 1000000 in
set_option maxRecDepth 100000 in
theorem Tryz.copy_fresh (b n : Nat) (w : World) (h0 : w.cell? ⟨b, 0, none⟩ = some (.pointer none)) (hsh : w.shape? b = some (109, n)) (hn : 2 ≤ n) (hfz : w.frozen? ⟨b, 0, none⟩ = false) :
    Calls Tryz.prog 118 #[.pointer (some ⟨b, 0, none⟩)] w fun e w' => e = .returned (.tuple #[]) ∧ w' = w.setCell ⟨b, 0, none⟩ (.pointer (some ⟨b, 0, none⟩)) := by
  obtain ⟨j, hj, hjs⟩ := Tryz.builder_info
  go_enter Tryz.func118, Tryz.ntmps118
  go_wp2
  rw [Lib.run_to_unsafe w ⟨b, 0, none⟩ Tryz.underlying106 Tryz.underlying191 hj (by rw [hjs]; decide) hsh (show 0 < n by omega)]
  simp only [Result.andThen]
  rw [Oper.upon_value]
  go_wp2
  rw [run_callFunc_extern Tryz.func170 (by kernel_rfl) (by kernel_rfl) (by kernel_rfl) (e := Extern.AbiNoEscape.same) (by kernel_rfl)]
  rw [Lib.run_noEscape]
  simp only [Result.andThen]
  rw [Oper.upon_value]
  go_wp2
  rw [Lib.run_from_unsafe w ⟨b, 0, none⟩ Tryz.underlying191 Tryz.underlying106 hj hsh (Tryz.lies_builder n hn)]
  simp only [Result.andThen]
  rw [Oper.upon_value]
  go_wp2
  go_end0
  exact ⟨rfl, rfl⟩

set_option maxHeartbeats 2000000 in
set_option maxRecDepth 100000 in
theorem Tryz.str_nil (b : Nat) (w : World) (h1 : w.cell? ⟨b, 1, none⟩ = some (.slice none 0 0)) :
    Calls Tryz.prog 71 #[.pointer (some ⟨b, 0, none⟩)] w fun e w' => e = .returned (.string .empty) ∧ w'.heap = w.heap ∧ Still w w' := by
  have hUS : ∀ (W : World) (q : Option Addr), (Builtin.unsafeString_ #[154, 3] 9 #[.pointer q, .int .i64 0]).run Tryz.prog W = .ok (.string .empty) W := fun W q => Lib.run_unsafeString_none W _ _ _ q
  have c1 : w.drew.cell? ⟨b, 1, none⟩ = some (.slice none 0 0) := h1
  have mixed : Tryz.prog.follows .mixedOrders = true := Tryz.fn_mixed
  have hSD : (Builtin.unsafeSliceData_ #[107] 154 #[.slice none 0 0]).run Tryz.prog w.drew = .ok (.pointer none) w.drew := rfl
  go_enter Tryz.func71, Tryz.ntmps71
  go_wp2
  go_region_o
  all_goals (go_wp2; go_ret; exact ⟨rfl, rfl, rfl, rfl⟩)

set_option maxHeartbeats 2000000 in
set_option maxRecDepth 100000 in
theorem Tryz.str_some (b g cap : Nat) (cur : Array Value) (l : List UInt8) (w : World) (h1 : w.cell? ⟨b, 1, none⟩ = some (.slice (some ⟨g, 0, none⟩) l.length cap)) (hg : w.heap[g]? = some (.cells cur 5 (0, 0))) (h0 : l ≠ [])
    (hlc : l.length ≤ cap) (hcm : cap ≤ maxLen) (hcs : cap ≤ cur.size) (hcells : ∀ (j : Nat) (x : UInt8), l[j]? = some x → cur[j]? = some (Value.int .u8 x.toNat)) :
    Calls Tryz.prog 71 #[.pointer (some ⟨b, 0, none⟩)] w fun e w' => e = .returned (.string ⟨l.toArray⟩) ∧ w'.heap = (w.freeze ⟨g, 0, none⟩ l.length).heap ∧ Still w w' := by
  have hl0 : l.length ≠ 0 := by simpa using h0
  have c1 : w.drew.cell? ⟨b, 1, none⟩ = some (.slice (some ⟨g, 0, none⟩) l.length cap) := h1
  have mixed : Tryz.prog.follows .mixedOrders = true := Tryz.fn_mixed
  have hSD : (Builtin.unsafeSliceData_ #[107] 154 #[.slice (some ⟨g, 0, none⟩) l.length cap]).run Tryz.prog w.drew = .ok (.pointer (some ⟨g, 0, none⟩)) w.drew :=
    Lib.run_unsafeSliceData_row _ _ _ _ _ _ (by omega)
  have hUS : (Builtin.unsafeString_ #[154, 3] 9 #[.pointer (some ⟨g, 0, none⟩), .int .i64 l.length]).run Tryz.prog w.drew = .ok (.string ⟨l.toArray⟩) (w.drew.freeze ⟨g, 0, none⟩ l.length) := by
    refine Lib.run_unsafeString_row w.drew 154 3 9 5 Tryz.underlying154 (by kernel_rfl) g cur.size (by have hg' : w.drew.heap[g]? = some (.cells cur 5 (0, 0)) := hg; simp [World.shape?, hg']) l h0 (by omega) (by unfold maxLen at hcm; omega) ?_
    intro j x hx
    have hg' : w.drew.heap[g]? = some (.cells cur 5 (0, 0)) := hg
    rw [Addr.add_lit]
    simp only [World.cell?, hg']
    simpa using hcells j x hx
  go_enter Tryz.func71, Tryz.ntmps71
  go_wp2
  go_region_o
  all_goals (go_wp2; go_ret; exact ⟨rfl, by unfold World.freeze; rw [if_neg hl0, if_neg hl0]; rfl, by unfold World.freeze; rw [if_neg hl0]; exact ⟨rfl, rfl⟩⟩)

set_option maxHeartbeats 2000000 in
set_option maxRecDepth 1000000 in
theorem Tryz.grow_fresh (b n : Nat) (vs : Array Value) (w : World) (hbk : w.heap[b]? = some (.cells vs 109 (0, 0))) (h1 : vs[1]? = some (.slice none 0 0)) (hn : n ≤ 281474976710656) :
    Calls Tryz.prog 192 #[Value.pointer (some ⟨b, 0, none⟩), Value.int .i64 n] w fun e w' => e = .returned (.tuple #[]) ∧ ∃ cs : Array Value, n ≤ cs.size ∧ (n ≤ maxLen → cs.size ≤ maxLen) ∧
      w'.heap = ((w.alloc (.cells cs 5)).setCell ⟨b, 1, none⟩ (.slice (some ⟨w.heap.size, 0, none⟩) 0 cs.size)).heap ∧ Still w w' := by
  obtain ⟨cs, hrun, hle, hmax⟩ := Lib.run_makeNoZero (P := Tryz.prog) w.drew #[3] 107 5 Tryz.underlying107 n hn
  have hw : IntKind.i64.wrap (IntKind.i64.wrap 0 + (n : Int)) = n := by
    rw [IntKind.wrap_i64, IntKind.wrap_i64]
    omega
  have hcall : (callFunc 231 #[.int .i64 (IntKind.i64.wrap (IntKind.i64.wrap 0 + (n : Int)))]).run Tryz.prog w.drew = .ok (.value (.slice (some ⟨w.drew.heap.size, 0, none⟩) n cs.size)) (w.drew.drew.drew.alloc (.cells cs 5)) := by
    rw [hw, run_callFunc_extern Tryz.func231 (by kernel_rfl) (by kernel_rfl) (by kernel_rfl) (e := Extern.BytealgMakeNoZero.makeNoZero #[3] #[107]) (by kernel_rfl), hrun]
    rfl
  have hlt : b < w.heap.size := by
    rcases Nat.lt_or_ge b w.heap.size with h' | h'
    · exact h'
    · simp [Array.getElem?_eq_none h'] at hbk
  have c1 : w.drew.cell? ⟨b, 1, none⟩ = some (.slice none 0 0) := by
    have : w.drew.heap[b]? = _ := hbk
    rw [Lib.cell_of_heap this]; exact h1
  have c2 : (w.alloc (.cells cs 5)).cell? ⟨b, 1, none⟩ = some (.slice none 0 0) := by
    have : (w.alloc (.cells cs 5)).heap[b]? = _ := (Lib.alloc_old w _ b hlt).trans hbk
    rw [Lib.cell_of_heap this]; exact h1
  have f2 : (w.alloc (.cells cs 5)).frozen? ⟨b, 1, none⟩ = false := Lib.frozen_of_heap ((Lib.alloc_old w _ b hlt).trans hbk) 1
  have hcopy : ∀ W : World, (Builtin.copy_ #[107, 107] 3 #[.slice (some ⟨w.heap.size, 0, none⟩) 0 cs.size, .slice none 0 0]).run Tryz.prog W = .ok (goInt 0) W :=
    fun W => run_copy_none W 107 107 3 5 _ _ 0 cs.size 0 0 Tryz.underlying107 (by kernel_rfl) rfl
  clear hw
  have mixed : Tryz.prog.follows .mixedOrders = true := Tryz.fn_mixed
  go_enter Tryz.func192, Tryz.ntmps192
  go_wp2
  go_region_o
  all_goals (go_wp2; go_end0; exact ⟨rfl, cs, hle, hmax, swap_heap hbk _ _ 1, rfl, rfl⟩)

set_option maxHeartbeats 2000000 in
set_option maxRecDepth 1000000 in
theorem Tryz.Grow_fresh (b n : Nat) (vs : Array Value) (w : World) (hbk : w.heap[b]? = some (.cells vs 109 (0, 0))) (h2 : 2 ≤ vs.size) (h0 : vs[0]? = some (.pointer none)) (h1 : vs[1]? = some (.slice none 0 0)) (hn0 : 0 < n) (hn : n ≤ Am.maxBytes) :
    Calls Tryz.prog 145 #[Value.pointer (some ⟨b, 0, none⟩), Value.int .i64 n] w fun e w' => e = .returned (.tuple #[]) ∧ ∃ cs : Array Value, n ≤ cs.size ∧ cs.size ≤ maxLen ∧
      w'.heap = (((w.setCell ⟨b, 0, none⟩ (.pointer (some ⟨b, 0, none⟩))).alloc (.cells cs 5)).setCell ⟨b, 1, none⟩ (.slice (some ⟨w.heap.size, 0, none⟩) 0 cs.size)).heap ∧ Still w w' := by
  have hbk1 : (w.setCell ⟨b, 0, none⟩ (.pointer (some ⟨b, 0, none⟩))).heap[b]? = some (.cells (vs.setIfInBounds 0 (.pointer (some ⟨b, 0, none⟩))) 109 (0, 0)) := by
    simp [World.setCell, Array.getElem?_modify, hbk]
  have hv1 : (vs.setIfInBounds 0 (.pointer (some ⟨b, 0, none⟩)))[1]? = some (.slice none 0 0) := by
    rw [Array.getElem?_setIfInBounds_ne (by decide)]; exact h1
  have c1 : (w.setCell ⟨b, 0, none⟩ (.pointer (some ⟨b, 0, none⟩))).cell? ⟨b, 1, none⟩ = some (.slice none 0 0) := by rw [Lib.cell_of_heap hbk1]; exact hv1
  have c1' : (w.setCell ⟨b, 0, none⟩ (.pointer (some ⟨b, 0, none⟩))).drew.cell? ⟨b, 1, none⟩ = some (.slice none 0 0) := c1
  have hmb : n ≤ 35184372088832 := hn
  have hlt0 : ¬ ((n : Int) < 0) := by omega
  have hlt1 : (0 : Int) < (n : Int) := by omega
  have mixed : Tryz.prog.follows .mixedOrders = true := Tryz.fn_mixed
  have e240 : ∀ args w, (callFunc 118 args).run Tryz.prog w = .ok (.enter 118 args) w := fun args w => run_callFunc Tryz.func118 (by kernel_rfl) rfl args w
  have e241 : ∀ args w, (callFunc 192 args).run Tryz.prog w = .ok (.enter 192 args) w := fun args w => run_callFunc Tryz.func192 (by kernel_rfl) rfl args w
  go_enter Tryz.func145, Tryz.ntmps145
  go_wp2_with (go_at_fn 118; refine (Tryz.copy_fresh b vs.size w (by rw [Lib.cell_of_heap hbk]; exact h0) (by simp [World.shape?, hbk]) h2 (Lib.frozen_of_heap hbk 0)).mono ?_; rintro e w' ⟨rfl, rfl⟩)
  go_region_o
  all_goals go_wp2_with (go_at_fn 192; refine (Tryz.grow_fresh b n _ (w.setCell ⟨b, 0, none⟩ (.pointer (some ⟨b, 0, none⟩))).drew hbk1 hv1 (by omega)).mono ?_; rintro e w' ⟨rfl, cs, q1, q2, q3, q4⟩)
  all_goals go_end0
  all_goals exact ⟨rfl, cs, q1, q2 (by unfold maxLen; omega), by rw [q3]; simp only [World.drew, setCell_size]; rfl, q4⟩

end Go.Proofs
