/- check.Order: what it answers, by the machine. No condition but on sizes. -/
import Derived.Test.YtbjfngebahogpaaGreatDoorFnSlices
import Derived.Test.YtbjfngebahogpaaGreatDoorAmStep3
namespace Go.Proofs
open Go.Am
set_option maxRecDepth 100000

/-- A row of texts, nil or not. -/
inductive RowS : PV → List (List Nat) → Prop
  | nil : RowS .nilslice []
  | sl (xs : List (List Nat)) : RowS (.slice .sh xs.length (xs.map .str)) xs

theorem Tryz.index_row {p : PV} {xs : List (List Nat)} (x : List Nat) (h : RowS p xs) (hl : xs.length < 2 ^ 62) : ∀ S, callW Tryz.E 31 [p, .str x] S = some (.int .i64 (idxS xs x 0), S) := by
  cases h with
  | nil => exact Tryz.slices_Index_nil x
  | sl => exact Tryz.slices_Index xs x hl

def pInt (i : Int) : PV := .int .i64 i

/-- 0, 1, .. -/
def rng (n : Nat) : List PV := (List.range n).map fun i => PV.int .i64 (.ofNat i)

theorem rng_succ (n : Nat) : rng (n + 1) = rng n ++ [.int .i64 (.ofNat n)] := by simp [rng, List.range_succ]
theorem rng_length (n : Nat) : (rng n).length = n := by simp [rng]

/-- Where the second's texts stand in the first, up to the first that does not. -/
def orderO (xs : List (List Nat)) : List (List Nat) → List Int
  | [] => []
  | y :: r => bif decide (idxS xs y 0 < 0) then [] else idxS xs y 0 :: orderO xs r

def orderV (xs ys : List (List Nat)) (n : Nat) : PV :=
  match xs with
  | [] => .tup [outV (rng n), .bool true]
  | _ :: _ => bif Nat.beq (orderO xs ys).length xs.length then .tup [outV ((orderO xs ys).map pInt), .bool true] else .tup [.nilslice, .bool false]

theorem fz_outP {B : Nat} {bx : List Box} {n g : Nat} (l : List PV) (b : Bool) : fz B bx (n + 2) (.tup [outP g l, .bool b]) = some (.tup [outV l, .bool b]) := by
  cases l <;> rfl

theorem lenRun_out {E : Env} {t e : Nat} {ti : TI} (ht : E.tt t = some ti) (hk : ti.kind = .slice e) (g : Nat) (l : List PV) : lenRun E t (outP g l) = some (.int .i64 (.ofNat l.length)) := by
  unfold lenRun
  rw [ht]
  simp only [hk]
  cases l <;> rfl

theorem fits8 {n : Nat} (h : n < 65536) : fits n 8 = true := by
  unfold fits maxBytes
  simp only [Bool.and_eq_true, Nat.ble_eq]
  omega

theorem Tryz.order_nil {p0 p1 : PV} {ys : List (List Nat)} (h0 : p0 = .nilslice ∨ p0 = .slice .sh 0 []) (h1 : RowS p1 ys) (n : Nat) (hn : n < 256) :
    ∀ S, callW Tryz.E 8 [p0, p1, .int .i64 (.ofNat n)] S = some (.tup [outV (rng n), .bool true], S) := by
  rcases h0 with rfl | rfl <;> cases h1
  all_goals
    refine call_pure (fn := Tryz.f8) rfl rfl rfl rfl rfl ⟨by show 3 ≤ 48; decide, by show 3 ≤ 4000; decide⟩ ?_
    repeat (first | refine ow_conv (by decide) rfl rfl rfl rfl rfl (fwrap_nat (by omega)) ?_ | refine ow_addC (by decide) rfl rfl rfl (by omega) ?_ | refine ow_fb (by decide) trivial rfl ?_ | refine ow_nil ?_ | refine cw_seq ?_ | refine cw_region ?_ | refine cw_region_d rfl ?_ | refine SeqK.normal ?_ | refine SeqK.ret ?_ | refine SeqK.exit ?_ | refine cw_block ?_ | refine BlockK.normal ?_ | refine BlockK.ret ?_ | refine BlockK.here ?_ | refine BlockK.there rfl ?_ | refine cw_true rfl ?_ | refine cw_false rfl ?_ | refine cw_skip ?_ | refine cw_exit ?_ | refine cw_ret ?_ | refine LoopK.ret ?_ | refine LoopK.exit ?_ | refine ow_fn trivial rfl ?_ | refine ow_guard_yes (by decide) trivial (by decide) rfl ?_ | refine ow_guard_no (by decide) trivial (by decide) rfl ?_ | refine ow_mv (by decide) rfl ?_ | refine ow_as (by decide) rfl ?_ | refine ow_ex (by decide) rfl rfl ?_ | refine ow_sp (by decide) trivial rfl (fun h => ?_) (fun h => ?_))
    refine cw_loop_told (fun k => k ≤ n) (fun k => [(16, .int .i64 (.ofNat n)), (17, .int .i64 (.ofNat k)), (8, outP 0 (rng k))]) (fun k => outS [] [] 3 (rng k)) (fun k => n - k) 0 (Nat.zero_le _) ⟨rfl, rfl, rfl, trivial⟩ rfl
      (by repeat (first | exact resp_ret | refine resp_seq ?_ | refine resp_block ?_ | refine resp_loop ?_ | exact resp_cut)) ?_
    intro k g hk
    repeat (first | refine ow_conv (by decide) rfl rfl rfl rfl rfl (fwrap_nat (by omega)) ?_ | refine ow_addC (by decide) rfl rfl rfl (by omega) ?_ | refine ow_fb (by decide) trivial rfl ?_ | refine ow_nil ?_ | refine cw_seq ?_ | refine cw_region ?_ | refine cw_region_d rfl ?_ | refine SeqK.normal ?_ | refine SeqK.ret ?_ | refine SeqK.exit ?_ | refine cw_block ?_ | refine BlockK.normal ?_ | refine BlockK.ret ?_ | refine BlockK.here ?_ | refine BlockK.there rfl ?_ | refine cw_true rfl ?_ | refine cw_false rfl ?_ | refine cw_skip ?_ | refine cw_exit ?_ | refine cw_ret ?_ | refine LoopK.ret ?_ | refine LoopK.exit ?_ | refine ow_fn trivial rfl ?_ | refine ow_guard_yes (by decide) trivial (by decide) rfl ?_ | refine ow_guard_no (by decide) trivial (by decide) rfl ?_ | refine ow_mv (by decide) rfl ?_ | refine ow_as (by decide) rfl ?_ | refine ow_ex (by decide) rfl rfl ?_ | refine ow_sp (by decide) trivial rfl (fun h => ?_) (fun h => ?_))
    · have hk' : k < n := lt_of_dec h
      refine ow_app (fr := []) (c := rng k) (v := .int .i64 (.ofNat k)) (v' := .int .i64 (.ofNat k)) (by decide) rfl rfl rfl rfl rfl rfl rfl rfl rfl rfl rfl (fits8 (by rw [rng_length]; omega)) ?_
      rw [← rng_succ]
      repeat (first | refine ow_conv (by decide) rfl rfl rfl rfl rfl (fwrap_nat (by omega)) ?_ | refine ow_addC (by decide) rfl rfl rfl (by omega) ?_ | refine ow_fb (by decide) trivial rfl ?_ | refine ow_nil ?_ | refine cw_seq ?_ | refine cw_region ?_ | refine cw_region_d rfl ?_ | refine SeqK.normal ?_ | refine SeqK.ret ?_ | refine SeqK.exit ?_ | refine cw_block ?_ | refine BlockK.normal ?_ | refine BlockK.ret ?_ | refine BlockK.here ?_ | refine BlockK.there rfl ?_ | refine cw_true rfl ?_ | refine cw_false rfl ?_ | refine cw_skip ?_ | refine cw_exit ?_ | refine cw_ret ?_ | refine LoopK.ret ?_ | refine LoopK.exit ?_ | refine ow_fn trivial rfl ?_ | refine ow_guard_yes (by decide) trivial (by decide) rfl ?_ | refine ow_guard_no (by decide) trivial (by decide) rfl ?_ | refine ow_mv (by decide) rfl ?_ | refine ow_as (by decide) rfl ?_ | refine ow_ex (by decide) rfl rfl ?_ | refine ow_sp (by decide) trivial rfl (fun h => ?_) (fun h => ?_))
      exact k_loop_n (k + 1) hk' (by omega) rfl ⟨rfl, rfl, rfl, trivial⟩
    · have hk' : k = n := Nat.le_antisymm hk (not_lt_of_dec h)
      subst hk'
      repeat (first | refine ow_conv (by decide) rfl rfl rfl rfl rfl (fwrap_nat (by omega)) ?_ | refine ow_addC (by decide) rfl rfl rfl (by omega) ?_ | refine ow_fb (by decide) trivial rfl ?_ | refine ow_nil ?_ | refine cw_seq ?_ | refine cw_region ?_ | refine cw_region_d rfl ?_ | refine SeqK.normal ?_ | refine SeqK.ret ?_ | refine SeqK.exit ?_ | refine cw_block ?_ | refine BlockK.normal ?_ | refine BlockK.ret ?_ | refine BlockK.here ?_ | refine BlockK.there rfl ?_ | refine cw_true rfl ?_ | refine cw_false rfl ?_ | refine cw_skip ?_ | refine cw_exit ?_ | refine cw_ret ?_ | refine LoopK.ret ?_ | refine LoopK.exit ?_ | refine ow_fn trivial rfl ?_ | refine ow_guard_yes (by decide) trivial (by decide) rfl ?_ | refine ow_guard_no (by decide) trivial (by decide) rfl ?_ | refine ow_mv (by decide) rfl ?_ | refine ow_as (by decide) rfl ?_ | refine ow_ex (by decide) rfl rfl ?_ | refine ow_sp (by decide) trivial rfl (fun h => ?_) (fun h => ?_))
      exact k_ret rfl (fz_outP _ _)

theorem orderO_le (xs : List (List Nat)) : ∀ ys, (orderO xs ys).length ≤ ys.length
  | [] => Nat.le_refl _
  | y :: r => by
    unfold orderO
    cases decide (idxS xs y 0 < 0) with
    | true => simp
    | false => simp only [cond_false, List.length_cons]; have := orderO_le xs r; omega

theorem eqb_t {a b : Nat} (h : (Int.ofNat a == Int.ofNat b) = true) : a = b := Int.ofNat.inj (of_decide_eq_true h)
theorem eqb_f {a b : Nat} (h : (Int.ofNat a == Int.ofNat b) = false) : ¬ a = b := fun e => of_decide_eq_false h (e ▸ rfl)
theorem neb_t {a b : Nat} (h : (Int.ofNat a != Int.ofNat b) = true) : ¬ a = b := fun e => by subst e; simp at h
theorem neb_f {a b : Nat} (h : (Int.ofNat a != Int.ofNat b) = false) : a = b := by
  have : (Int.ofNat a : Int) = Int.ofNat b := by simpa using h
  exact Int.ofNat.inj this

/-- With names: what it answers. -/
def orderW (xs ys : List (List Nat)) : PV := if (orderO xs ys).length = xs.length then .tup [outV ((orderO xs ys).map pInt), .bool true] else .tup [.nilslice, .bool false]

theorem Tryz.order_sl {p1 : PV} {xs ys : List (List Nat)} (hx0 : xs ≠ []) (h1 : RowS p1 ys) (hx : xs.length < 2 ^ 62) (hy : ys.length < 60000) (n : Nat) :
    ∀ S, callW Tryz.E 8 [.slice .sh xs.length (xs.map .str), p1, .int .i64 (.ofNat n)] S = some (orderW xs ys, S) := by
  have hne : ¬ (xs.length = 0) := fun h => hx0 (List.eq_nil_of_length_eq_zero h)
  cases h1 with
  | nil =>
    refine call_pure (fn := Tryz.f8) rfl rfl rfl rfl rfl ⟨by show 3 ≤ 48; decide, by show 3 ≤ 4000; decide⟩ ?_
    repeat (first | refine ow_conv (by decide) rfl rfl rfl rfl rfl (fwrap_nat (by omega)) ?_ | refine ow_addC (by decide) rfl rfl rfl (by omega) ?_ | refine ow_fb (by decide) trivial rfl ?_ | refine ow_nil ?_ | refine cw_seq ?_ | refine cw_region ?_ | refine cw_region_d rfl ?_ | refine SeqK.normal ?_ | refine SeqK.ret ?_ | refine SeqK.exit ?_ | refine cw_block ?_ | refine BlockK.normal ?_ | refine BlockK.ret ?_ | refine BlockK.here ?_ | refine BlockK.there rfl ?_ | refine cw_true rfl ?_ | refine cw_false rfl ?_ | refine cw_skip ?_ | refine cw_exit ?_ | refine cw_ret ?_ | refine LoopK.ret ?_ | refine LoopK.exit ?_ | refine ow_fn trivial rfl ?_ | refine ow_guard_yes (by decide) trivial (by decide) rfl ?_ | refine ow_guard_no (by decide) trivial (by decide) rfl ?_ | refine ow_mv (by decide) rfl ?_ | refine ow_as (by decide) rfl ?_ | refine ow_ex (by decide) rfl rfl ?_ | refine ow_sp (by decide) trivial rfl (fun h => ?_) (fun h => ?_))
    · exact absurd (Int.ofNat.inj (of_decide_eq_true h)) hne
    repeat (first | refine ow_conv (by decide) rfl rfl rfl rfl rfl (fwrap_nat (by omega)) ?_ | refine ow_addC (by decide) rfl rfl rfl (by omega) ?_ | refine ow_fb (by decide) trivial rfl ?_ | refine ow_nil ?_ | refine cw_seq ?_ | refine cw_region ?_ | refine cw_region_d rfl ?_ | refine SeqK.normal ?_ | refine SeqK.ret ?_ | refine SeqK.exit ?_ | refine cw_block ?_ | refine BlockK.normal ?_ | refine BlockK.ret ?_ | refine BlockK.here ?_ | refine BlockK.there rfl ?_ | refine cw_true rfl ?_ | refine cw_false rfl ?_ | refine cw_skip ?_ | refine cw_exit ?_ | refine cw_ret ?_ | refine LoopK.ret ?_ | refine LoopK.exit ?_ | refine ow_fn trivial rfl ?_ | refine ow_guard_yes (by decide) trivial (by decide) rfl ?_ | refine ow_guard_no (by decide) trivial (by decide) rfl ?_ | refine ow_mv (by decide) rfl ?_ | refine ow_as (by decide) rfl ?_ | refine ow_ex (by decide) rfl rfl ?_ | refine ow_sp (by decide) trivial rfl (fun h => ?_) (fun h => ?_))
    refine cw_loop ?_
    repeat (first | refine ow_conv (by decide) rfl rfl rfl rfl rfl (fwrap_nat (by omega)) ?_ | refine ow_addC (by decide) rfl rfl rfl (by omega) ?_ | refine ow_fb (by decide) trivial rfl ?_ | refine ow_nil ?_ | refine cw_seq ?_ | refine cw_region ?_ | refine cw_region_d rfl ?_ | refine SeqK.normal ?_ | refine SeqK.ret ?_ | refine SeqK.exit ?_ | refine cw_block ?_ | refine BlockK.normal ?_ | refine BlockK.ret ?_ | refine BlockK.here ?_ | refine BlockK.there rfl ?_ | refine cw_true rfl ?_ | refine cw_false rfl ?_ | refine cw_skip ?_ | refine cw_exit ?_ | refine cw_ret ?_ | refine LoopK.ret ?_ | refine LoopK.exit ?_ | refine ow_fn trivial rfl ?_ | refine ow_guard_yes (by decide) trivial (by decide) rfl ?_ | refine ow_guard_no (by decide) trivial (by decide) rfl ?_ | refine ow_mv (by decide) rfl ?_ | refine ow_as (by decide) rfl ?_ | refine ow_ex (by decide) rfl rfl ?_ | refine ow_sp (by decide) trivial rfl (fun h => ?_) (fun h => ?_))
    · have e : orderW xs [] = .tup [.nilslice, .bool false] := if_neg (fun h => hne h.symm)
      rw [e]
      exact k_ret rfl rfl
    · exact absurd (neb_f h).symm hne
  | sl ys =>
    refine call_pure (fn := Tryz.f8) rfl rfl rfl rfl rfl ⟨by show 3 ≤ 48; decide, by show 3 ≤ 4000; decide⟩ ?_
    repeat (first | refine ow_conv (by decide) rfl rfl rfl rfl rfl (fwrap_nat (by omega)) ?_ | refine ow_addC (by decide) rfl rfl rfl (by omega) ?_ | refine ow_fb (by decide) trivial rfl ?_ | refine ow_nil ?_ | refine cw_seq ?_ | refine cw_region ?_ | refine cw_region_d rfl ?_ | refine SeqK.normal ?_ | refine SeqK.ret ?_ | refine SeqK.exit ?_ | refine cw_block ?_ | refine BlockK.normal ?_ | refine BlockK.ret ?_ | refine BlockK.here ?_ | refine BlockK.there rfl ?_ | refine cw_true rfl ?_ | refine cw_false rfl ?_ | refine cw_skip ?_ | refine cw_exit ?_ | refine cw_ret ?_ | refine LoopK.ret ?_ | refine LoopK.exit ?_ | refine ow_fn trivial rfl ?_ | refine ow_guard_yes (by decide) trivial (by decide) rfl ?_ | refine ow_guard_no (by decide) trivial (by decide) rfl ?_ | refine ow_mv (by decide) rfl ?_ | refine ow_as (by decide) rfl ?_ | refine ow_ex (by decide) rfl rfl ?_ | refine ow_sp (by decide) trivial rfl (fun h => ?_) (fun h => ?_))
    · exact absurd (Int.ofNat.inj (of_decide_eq_true h)) hne
    repeat (first | refine ow_conv (by decide) rfl rfl rfl rfl rfl (fwrap_nat (by omega)) ?_ | refine ow_addC (by decide) rfl rfl rfl (by omega) ?_ | refine ow_fb (by decide) trivial rfl ?_ | refine ow_nil ?_ | refine cw_seq ?_ | refine cw_region ?_ | refine cw_region_d rfl ?_ | refine SeqK.normal ?_ | refine SeqK.ret ?_ | refine SeqK.exit ?_ | refine cw_block ?_ | refine BlockK.normal ?_ | refine BlockK.ret ?_ | refine BlockK.here ?_ | refine BlockK.there rfl ?_ | refine cw_true rfl ?_ | refine cw_false rfl ?_ | refine cw_skip ?_ | refine cw_exit ?_ | refine cw_ret ?_ | refine LoopK.ret ?_ | refine LoopK.exit ?_ | refine ow_fn trivial rfl ?_ | refine ow_guard_yes (by decide) trivial (by decide) rfl ?_ | refine ow_guard_no (by decide) trivial (by decide) rfl ?_ | refine ow_mv (by decide) rfl ?_ | refine ow_as (by decide) rfl ?_ | refine ow_ex (by decide) rfl rfl ?_ | refine ow_sp (by decide) trivial rfl (fun h => ?_) (fun h => ?_))
    refine cw_loop_told (fun a : Nat × List Int => a.1 ≤ ys.length ∧ a.2.length = a.1 ∧ orderO xs ys = a.2 ++ orderO xs (ys.drop a.1))
      (fun a => [(0, .slice .sh xs.length (xs.map .str)), (26, .slice .sh ys.length (ys.map .str)), (27, .int .i64 (.ofNat ys.length)), (28, .int .i64 (.ofNat a.1)), (8, outP 0 (a.2.map pInt))])
      (fun a => outS [] [] 3 (a.2.map pInt)) (fun a => ys.length - a.1) (0, []) ⟨Nat.zero_le _, rfl, rfl⟩ ⟨rfl, rfl, rfl, rfl, rfl, trivial⟩ rfl (by repeat (first | exact resp_ret | refine resp_seq ?_ | refine resp_block ?_ | refine resp_loop ?_ | exact resp_cut)) ?_
    rintro ⟨k, c⟩ g ⟨hk, hc, ho⟩
    repeat (first | refine ow_conv (by decide) rfl rfl rfl rfl rfl (fwrap_nat (by omega)) ?_ | refine ow_addC (by decide) rfl rfl rfl (by omega) ?_ | refine ow_fb (by decide) trivial rfl ?_ | refine ow_nil ?_ | refine cw_seq ?_ | refine cw_region ?_ | refine cw_region_d rfl ?_ | refine SeqK.normal ?_ | refine SeqK.ret ?_ | refine SeqK.exit ?_ | refine cw_block ?_ | refine BlockK.normal ?_ | refine BlockK.ret ?_ | refine BlockK.here ?_ | refine BlockK.there rfl ?_ | refine cw_true rfl ?_ | refine cw_false rfl ?_ | refine cw_skip ?_ | refine cw_exit ?_ | refine cw_ret ?_ | refine LoopK.ret ?_ | refine LoopK.exit ?_ | refine ow_fn trivial rfl ?_ | refine ow_guard_yes (by decide) trivial (by decide) rfl ?_ | refine ow_guard_no (by decide) trivial (by decide) rfl ?_ | refine ow_mv (by decide) rfl ?_ | refine ow_as (by decide) rfl ?_ | refine ow_ex (by decide) rfl rfl ?_ | refine ow_sp (by decide) trivial rfl (fun h => ?_) (fun h => ?_))
    · have hk' : k < ys.length := lt_of_dec h
      have hd : ys.drop k = ys[k] :: ys.drop (k + 1) := List.drop_eq_getElem_cons hk'
      dsimp only at hk hc ho
      rw [hd] at ho
      refine ow_indexAddr (by decide) rfl rfl rfl rfl rfl hk' ?_
      refine ow_load_imm (v := .str ys[k]) (by decide) rfl rfl (loadL_one rfl rfl (by simp [hk'])) ?_
      repeat (first | refine ow_conv (by decide) rfl rfl rfl rfl rfl (fwrap_nat (by omega)) ?_ | refine ow_addC (by decide) rfl rfl rfl (by omega) ?_ | refine ow_fb (by decide) trivial rfl ?_ | refine ow_nil ?_ | refine cw_seq ?_ | refine cw_region ?_ | refine cw_region_d rfl ?_ | refine SeqK.normal ?_ | refine SeqK.ret ?_ | refine SeqK.exit ?_ | refine cw_block ?_ | refine BlockK.normal ?_ | refine BlockK.ret ?_ | refine BlockK.here ?_ | refine BlockK.there rfl ?_ | refine cw_true rfl ?_ | refine cw_false rfl ?_ | refine cw_skip ?_ | refine cw_exit ?_ | refine cw_ret ?_ | refine LoopK.ret ?_ | refine LoopK.exit ?_ | refine ow_fn trivial rfl ?_ | refine ow_guard_yes (by decide) trivial (by decide) rfl ?_ | refine ow_guard_no (by decide) trivial (by decide) rfl ?_ | refine ow_mv (by decide) rfl ?_ | refine ow_as (by decide) rfl ?_ | refine ow_ex (by decide) rfl rfl ?_ | refine ow_sp (by decide) trivial rfl (fun h => ?_) (fun h => ?_))
      refine ow_call (by decide) rfl rfl rfl (Tryz.index_row ys[k] (.sl xs) hx _) ?_
      repeat (first | refine ow_conv (by decide) rfl rfl rfl rfl rfl (fwrap_nat (by omega)) ?_ | refine ow_addC (by decide) rfl rfl rfl (by omega) ?_ | refine ow_fb (by decide) trivial rfl ?_ | refine ow_nil ?_ | refine cw_seq ?_ | refine cw_region ?_ | refine cw_region_d rfl ?_ | refine SeqK.normal ?_ | refine SeqK.ret ?_ | refine SeqK.exit ?_ | refine cw_block ?_ | refine BlockK.normal ?_ | refine BlockK.ret ?_ | refine BlockK.here ?_ | refine BlockK.there rfl ?_ | refine cw_true rfl ?_ | refine cw_false rfl ?_ | refine cw_skip ?_ | refine cw_exit ?_ | refine cw_ret ?_ | refine LoopK.ret ?_ | refine LoopK.exit ?_ | refine ow_fn trivial rfl ?_ | refine ow_guard_yes (by decide) trivial (by decide) rfl ?_ | refine ow_guard_no (by decide) trivial (by decide) rfl ?_ | refine ow_mv (by decide) rfl ?_ | refine ow_as (by decide) rfl ?_ | refine ow_ex (by decide) rfl rfl ?_ | refine ow_sp (by decide) trivial rfl (fun h => ?_) (fun h => ?_))
      · have ho' : orderO xs ys = c := by
          rw [ho]; unfold orderO; rw [h]; simp
        refine ow_lenP (k := c.length) (by decide) rfl rfl rfl rfl ((lenRun_out rfl rfl _ _).trans (by rw [List.length_map])) ?_
        repeat (first | refine ow_conv (by decide) rfl rfl rfl rfl rfl (fwrap_nat (by omega)) ?_ | refine ow_addC (by decide) rfl rfl rfl (by omega) ?_ | refine ow_fb (by decide) trivial rfl ?_ | refine ow_nil ?_ | refine cw_seq ?_ | refine cw_region ?_ | refine cw_region_d rfl ?_ | refine SeqK.normal ?_ | refine SeqK.ret ?_ | refine SeqK.exit ?_ | refine cw_block ?_ | refine BlockK.normal ?_ | refine BlockK.ret ?_ | refine BlockK.here ?_ | refine BlockK.there rfl ?_ | refine cw_true rfl ?_ | refine cw_false rfl ?_ | refine cw_skip ?_ | refine cw_exit ?_ | refine cw_ret ?_ | refine LoopK.ret ?_ | refine LoopK.exit ?_ | refine ow_fn trivial rfl ?_ | refine ow_guard_yes (by decide) trivial (by decide) rfl ?_ | refine ow_guard_no (by decide) trivial (by decide) rfl ?_ | refine ow_mv (by decide) rfl ?_ | refine ow_as (by decide) rfl ?_ | refine ow_ex (by decide) rfl rfl ?_ | refine ow_sp (by decide) trivial rfl (fun h => ?_) (fun h => ?_))
        · have e : orderW xs ys = .tup [.nilslice, .bool false] := if_neg (by rw [ho']; exact neb_t h)
          rw [e]
          exact k_ret rfl rfl
        · repeat (first | refine ow_conv (by decide) rfl rfl rfl rfl rfl (fwrap_nat (by omega)) ?_ | refine ow_addC (by decide) rfl rfl rfl (by omega) ?_ | refine ow_fb (by decide) trivial rfl ?_ | refine ow_nil ?_ | refine cw_seq ?_ | refine cw_region ?_ | refine cw_region_d rfl ?_ | refine SeqK.normal ?_ | refine SeqK.ret ?_ | refine SeqK.exit ?_ | refine cw_block ?_ | refine BlockK.normal ?_ | refine BlockK.ret ?_ | refine BlockK.here ?_ | refine BlockK.there rfl ?_ | refine cw_true rfl ?_ | refine cw_false rfl ?_ | refine cw_skip ?_ | refine cw_exit ?_ | refine cw_ret ?_ | refine LoopK.ret ?_ | refine LoopK.exit ?_ | refine ow_fn trivial rfl ?_ | refine ow_guard_yes (by decide) trivial (by decide) rfl ?_ | refine ow_guard_no (by decide) trivial (by decide) rfl ?_ | refine ow_mv (by decide) rfl ?_ | refine ow_as (by decide) rfl ?_ | refine ow_ex (by decide) rfl rfl ?_ | refine ow_sp (by decide) trivial rfl (fun h => ?_) (fun h => ?_))
          have e : orderW xs ys = .tup [outV (c.map pInt), .bool true] := by
            unfold orderW
            rw [ho', if_pos (neb_f h)]
          rw [e]
          exact k_ret rfl (fz_outP _ _)
      · repeat (first | refine ow_conv (by decide) rfl rfl rfl rfl rfl (fwrap_nat (by omega)) ?_ | refine ow_addC (by decide) rfl rfl rfl (by omega) ?_ | refine ow_fb (by decide) trivial rfl ?_ | refine ow_nil ?_ | refine cw_seq ?_ | refine cw_region ?_ | refine cw_region_d rfl ?_ | refine SeqK.normal ?_ | refine SeqK.ret ?_ | refine SeqK.exit ?_ | refine cw_block ?_ | refine BlockK.normal ?_ | refine BlockK.ret ?_ | refine BlockK.here ?_ | refine BlockK.there rfl ?_ | refine cw_true rfl ?_ | refine cw_false rfl ?_ | refine cw_skip ?_ | refine cw_exit ?_ | refine cw_ret ?_ | refine LoopK.ret ?_ | refine LoopK.exit ?_ | refine ow_fn trivial rfl ?_ | refine ow_guard_yes (by decide) trivial (by decide) rfl ?_ | refine ow_guard_no (by decide) trivial (by decide) rfl ?_ | refine ow_mv (by decide) rfl ?_ | refine ow_as (by decide) rfl ?_ | refine ow_ex (by decide) rfl rfl ?_ | refine ow_sp (by decide) trivial rfl (fun h => ?_) (fun h => ?_))
        refine ow_app (fr := []) (c := c.map pInt) (v := .int .i64 (idxS xs ys[k] 0)) (v' := .int .i64 (idxS xs ys[k] 0)) (by decide) rfl rfl rfl rfl rfl rfl rfl rfl rfl rfl rfl (fits8 (by rw [List.length_map]; omega)) ?_
        have em : c.map pInt ++ [.int .i64 (idxS xs ys[k] 0)] = (c ++ [idxS xs ys[k] 0]).map pInt := by simp [pInt]
        rw [em]
        repeat (first | refine ow_conv (by decide) rfl rfl rfl rfl rfl (fwrap_nat (by omega)) ?_ | refine ow_addC (by decide) rfl rfl rfl (by omega) ?_ | refine ow_fb (by decide) trivial rfl ?_ | refine ow_nil ?_ | refine cw_seq ?_ | refine cw_region ?_ | refine cw_region_d rfl ?_ | refine SeqK.normal ?_ | refine SeqK.ret ?_ | refine SeqK.exit ?_ | refine cw_block ?_ | refine BlockK.normal ?_ | refine BlockK.ret ?_ | refine BlockK.here ?_ | refine BlockK.there rfl ?_ | refine cw_true rfl ?_ | refine cw_false rfl ?_ | refine cw_skip ?_ | refine cw_exit ?_ | refine cw_ret ?_ | refine LoopK.ret ?_ | refine LoopK.exit ?_ | refine ow_fn trivial rfl ?_ | refine ow_guard_yes (by decide) trivial (by decide) rfl ?_ | refine ow_guard_no (by decide) trivial (by decide) rfl ?_ | refine ow_mv (by decide) rfl ?_ | refine ow_as (by decide) rfl ?_ | refine ow_ex (by decide) rfl rfl ?_ | refine ow_sp (by decide) trivial rfl (fun h => ?_) (fun h => ?_))
        refine k_loop_n (k + 1, c ++ [idxS xs ys[k] 0]) ⟨hk', by simp [hc], ?_⟩ (by show ys.length - (k + 1) < ys.length - k; omega) rfl ⟨rfl, rfl, rfl, rfl, rfl, trivial⟩
        rw [ho]
        have hn : orderO xs (ys[k] :: ys.drop (k + 1)) = idxS xs ys[k] 0 :: orderO xs (ys.drop (k + 1)) := by
          show (bif decide (idxS xs ys[k] 0 < 0) then _ else _) = _
          rw [show decide (idxS xs ys[k] 0 < 0) = false from h]; rfl
        rw [hn]; simp
    · have hk' : ys.length ≤ k := not_lt_of_dec h
      dsimp only at hk hc ho
      have ho' : orderO xs ys = c := by
        rw [ho, List.drop_eq_nil_of_le hk']; simp [orderO]
      repeat (first | refine ow_conv (by decide) rfl rfl rfl rfl rfl (fwrap_nat (by omega)) ?_ | refine ow_addC (by decide) rfl rfl rfl (by omega) ?_ | refine ow_fb (by decide) trivial rfl ?_ | refine ow_nil ?_ | refine cw_seq ?_ | refine cw_region ?_ | refine cw_region_d rfl ?_ | refine SeqK.normal ?_ | refine SeqK.ret ?_ | refine SeqK.exit ?_ | refine cw_block ?_ | refine BlockK.normal ?_ | refine BlockK.ret ?_ | refine BlockK.here ?_ | refine BlockK.there rfl ?_ | refine cw_true rfl ?_ | refine cw_false rfl ?_ | refine cw_skip ?_ | refine cw_exit ?_ | refine cw_ret ?_ | refine LoopK.ret ?_ | refine LoopK.exit ?_ | refine ow_fn trivial rfl ?_ | refine ow_guard_yes (by decide) trivial (by decide) rfl ?_ | refine ow_guard_no (by decide) trivial (by decide) rfl ?_ | refine ow_mv (by decide) rfl ?_ | refine ow_as (by decide) rfl ?_ | refine ow_ex (by decide) rfl rfl ?_ | refine ow_sp (by decide) trivial rfl (fun h => ?_) (fun h => ?_))
      refine ow_lenP (k := c.length) (by decide) rfl rfl rfl rfl ((lenRun_out rfl rfl _ _).trans (by rw [List.length_map])) ?_
      repeat (first | refine ow_conv (by decide) rfl rfl rfl rfl rfl (fwrap_nat (by omega)) ?_ | refine ow_addC (by decide) rfl rfl rfl (by omega) ?_ | refine ow_fb (by decide) trivial rfl ?_ | refine ow_nil ?_ | refine cw_seq ?_ | refine cw_region ?_ | refine cw_region_d rfl ?_ | refine SeqK.normal ?_ | refine SeqK.ret ?_ | refine SeqK.exit ?_ | refine cw_block ?_ | refine BlockK.normal ?_ | refine BlockK.ret ?_ | refine BlockK.here ?_ | refine BlockK.there rfl ?_ | refine cw_true rfl ?_ | refine cw_false rfl ?_ | refine cw_skip ?_ | refine cw_exit ?_ | refine cw_ret ?_ | refine LoopK.ret ?_ | refine LoopK.exit ?_ | refine ow_fn trivial rfl ?_ | refine ow_guard_yes (by decide) trivial (by decide) rfl ?_ | refine ow_guard_no (by decide) trivial (by decide) rfl ?_ | refine ow_mv (by decide) rfl ?_ | refine ow_as (by decide) rfl ?_ | refine ow_ex (by decide) rfl rfl ?_ | refine ow_sp (by decide) trivial rfl (fun h => ?_) (fun h => ?_))
      · have e : orderW xs ys = .tup [.nilslice, .bool false] := if_neg (by rw [ho']; exact neb_t h)
        rw [e]
        exact k_ret rfl rfl
      · repeat (first | refine ow_conv (by decide) rfl rfl rfl rfl rfl (fwrap_nat (by omega)) ?_ | refine ow_addC (by decide) rfl rfl rfl (by omega) ?_ | refine ow_fb (by decide) trivial rfl ?_ | refine ow_nil ?_ | refine cw_seq ?_ | refine cw_region ?_ | refine cw_region_d rfl ?_ | refine SeqK.normal ?_ | refine SeqK.ret ?_ | refine SeqK.exit ?_ | refine cw_block ?_ | refine BlockK.normal ?_ | refine BlockK.ret ?_ | refine BlockK.here ?_ | refine BlockK.there rfl ?_ | refine cw_true rfl ?_ | refine cw_false rfl ?_ | refine cw_skip ?_ | refine cw_exit ?_ | refine cw_ret ?_ | refine LoopK.ret ?_ | refine LoopK.exit ?_ | refine ow_fn trivial rfl ?_ | refine ow_guard_yes (by decide) trivial (by decide) rfl ?_ | refine ow_guard_no (by decide) trivial (by decide) rfl ?_ | refine ow_mv (by decide) rfl ?_ | refine ow_as (by decide) rfl ?_ | refine ow_ex (by decide) rfl rfl ?_ | refine ow_sp (by decide) trivial rfl (fun h => ?_) (fun h => ?_))
        have e : orderW xs ys = .tup [outV (c.map pInt), .bool true] := by
          unfold orderW
          rw [ho', if_pos (neb_f h)]
        rw [e]
        exact k_ret rfl (fz_outP _ _)

end Go.Proofs
