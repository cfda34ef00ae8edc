/- THE LAW CheckOrders: what the walk gives. -/
import Derived.Test.YtbjfngebahogpaaGreatDoorLwW
import Derived.Test.YtbjfngebahogpaaGreatDoorFnOrders2
import Derived.WalkKit
import Derived.ProofKit
namespace Go.Proofs.YtbjfngebahogpaaGreatDoor.checkOrders
open Go.ChangeShapes Go.WideShapes Go.ChangeAt Go.RowKit Go.Am

theorem shape_row {l : List PV} (h : Shape Tryz.prog 22 l) : ∃ p xs, l = [p] ∧ RowS p xs := by
  cases h with
  | bool h => rw [Tryz.underlying22] at h; cases h
  | int h => rw [Tryz.underlying22] at h; cases h
  | str h => rw [Tryz.underlying22] at h; cases h
  | struct h => rw [Tryz.underlying22] at h; cases h
  | arr h => rw [Tryz.underlying22] at h; cases h
  | nil h => exact ⟨_, [], rfl, .nil⟩
  | slice h parts hm hp =>
    rw [Tryz.underlying22] at h
    cases h
    have key : ∀ parts : List (List PV), (∀ p ∈ parts, Shape Tryz.prog 9 p) → ∃ xs : List (List Nat), parts.flatten = xs.map .str ∧ xs.length = parts.length := by
      intro parts
      induction parts with
      | nil => intro _; exact ⟨[], rfl, rfl⟩
      | cons p r ih =>
        intro hp
        obtain ⟨xs, e, el⟩ := ih fun p h => hp p (List.mem_cons_of_mem _ h)
        have h1 := hp p List.mem_cons_self
        cases h1 with
        | str h l => exact ⟨l :: xs, by simp [e], by simp [el]⟩
        | bool h => rw [Tryz.underlying9] at h; cases h
        | int h => rw [Tryz.underlying9] at h; cases h
        | struct h => rw [Tryz.underlying9] at h; cases h
        | arr h => rw [Tryz.underlying9] at h; cases h
        | nil h => rw [Tryz.underlying9] at h; cases h
        | slice h => rw [Tryz.underlying9] at h; cases h
    obtain ⟨xs, e, el⟩ := key parts hp
    refine ⟨_, xs, rfl, ?_⟩
    rw [e, ← el]
    exact .sl xs

theorem shape_u8 {l : List PV} (h : Shape Tryz.prog 5 l) : ∃ n : Nat, n < 256 ∧ l = [.int .u8 (.ofNat n)] := by
  cases h with
  | int h n hw =>
    rw [Tryz.underlying5] at h
    cases h
    have hw' : 0 ≤ n ∧ n ≤ 255 := by
      simp [Lit.wf, IntKind.min, IntKind.max, IntKind.signed, IntKind.bits] at hw
      omega
    obtain ⟨m, rfl⟩ := Int.eq_ofNat_of_zero_le hw'.1
    exact ⟨m, by omega, rfl⟩
  | bool h => rw [Tryz.underlying5] at h; cases h
  | str h => rw [Tryz.underlying5] at h; cases h
  | struct h => rw [Tryz.underlying5] at h; cases h
  | arr h => rw [Tryz.underlying5] at h; cases h
  | nil h => rw [Tryz.underlying5] at h; cases h
  | slice h => rw [Tryz.underlying5] at h; cases h

theorem all_true {p0 p1 : PV} {xs ys : List (List Nat)} (h0 : RowS p0 xs) (h1 : RowS p1 ys) (n : Nat) (hn : n < 256) : callW Tryz.E 3 [p0, p1, .int .u8 (.ofNat n)] St.empty = some (.bool true, St.empty) := by
  cases h0 with
  | nil =>
    cases h1 with
    | nil => exact Tryz.orders_nil0 (.inl rfl) n hn _
    | sl ys => exact Tryz.orders_nil1 (.inl rfl) ys n hn _
  | sl xs =>
    by_cases e : xs = []
    · subst e
      cases h1 with
      | nil => exact Tryz.orders_nil0 (.inr rfl) n hn _
      | sl ys => exact Tryz.orders_nil1 (.inr rfl) ys n hn _
    · cases h1 with
      | nil => exact Tryz.orders_sl0 e n hn _
      | sl ys => exact Tryz.orders_sl1 ys e n hn _

theorem law_true {H : Type} {ds : List (DataW H)} (hlen : ds.length = 3) (hs : ∀ (i : Nat) t d, [22, 22, 5][i]? = some t → ds[i]? = some d → Shape Tryz.prog t (pvD d)) :
    ∃ S', callW Tryz.E 3 (argsPV Tryz.prog [22, 22, 5] ds) St.empty = some (.bool true, S') := by
  match ds, hlen with
  | [d0, d1, d2], _ =>
    obtain ⟨p0, xs, e0, r0⟩ := shape_row (hs 0 _ d0 rfl rfl)
    obtain ⟨p1, ys, e1, r1⟩ := shape_row (hs 1 _ d1 rfl rfl)
    obtain ⟨n, hn, e2⟩ := shape_u8 (hs 2 _ d2 rfl rfl)
    refine ⟨St.empty, ?_⟩
    have ea : argsPV Tryz.prog [22, 22, 5] [d0, d1, d2] = [p0, p1, .int .u8 (.ofNat n)] := by
      have a1 : aggT Tryz.prog 22 = false := by unfold aggT; rw [Tryz.underlying22]
      have a2 : aggT Tryz.prog 5 = false := by unfold aggT; rw [Tryz.underlying5]
      simp only [argsPV, argPV, a1, a2, cond_false, e0, e1, e2, List.headD_cons]
    rw [ea]
    exact all_true r0 r1 n hn

theorem fn_eq {H : Type} {ds : List (DataW H)} (h : ds.length = 3) : Rows.checkOrdersSpec.fn H ds = { results := [.lit (.bool true)], args := ds } := by
  match ds, h with | [_, _, _], _ => rfl

set_option maxRecDepth 1000000 in
theorem contract (H : Type) (enc : TypeId × Value → H) (W : World) (base : Nat) (args : Array Value) (ds gs : List (DataW H)) (before : List MemPlace)
    (hval : ∀ (j : Nat) t v, Tryz.f3.params[j]? = some t → args[j]? = some v → Value.okWide Tryz.prog W .any base t v)
    (hW : DataW.Whole enc Tryz.prog Tryz.f3.params.toList Rows.checkOrdersSpec.vars false W args.toList ds gs before) (hL : laidMetH Tryz.prog Rows.checkOrdersRow.laid W) :
    Calls Tryz.prog 3 args W fun e W' => ∃ v, e = .returned v ∧ Rows.checkOrdersSpec.post enc Tryz.prog Tryz.f3 false true false false W args v W' :=
  law_contract (g := Tryz.good) (tb := 4) Tryz.sound (Tryz.globs hL) (run_callFunc Tryz.func3 (by kernel_rfl) rfl args W) Tryz.good_ok (by kernel_rfl) Tryz.laidOut rfl Tryz.underlying4 rfl (by kernel_rfl)
    (fun h => by rw [Tryz.params3] at h; exact fn_eq h) hval hW (fun h hs _ => by rw [Tryz.params3] at h hs ⊢; exact law_true h hs)

end Go.Proofs.YtbjfngebahogpaaGreatDoor.checkOrders
