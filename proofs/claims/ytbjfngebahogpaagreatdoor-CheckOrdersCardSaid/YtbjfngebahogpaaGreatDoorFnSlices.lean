/- slices.Index and slices.Contains of texts: what they answer, by the machine. No condition but that the texts are fewer than 2^62. -/
import Derived.Test.YtbjfngebahogpaaGreatDoorAmE
import Derived.Test.YtbjfngebahogpaaGreatDoorAmG
namespace Go.Proofs
open Go.Am
set_option maxRecDepth 100000

/-- The first place of a text from a place on. -/
def idxS : List (List Nat) → List Nat → Nat → Int
  | [], _, _ => -1
  | a :: r, x, k => bif listEq x a then .ofNat k else idxS r x (k + 1)

theorem Tryz.slices_Index (xs : List (List Nat)) (x : List Nat) (h : xs.length < 2 ^ 62) : ∀ S, callW Tryz.E 31 [.slice .sh xs.length (xs.map .str), .str x] S = some (.int .i64 (idxS xs x 0), S) := by
  refine call_pure (fn := Tryz.f31) rfl rfl rfl rfl rfl ⟨by show 2 ≤ 19; decide, by show 2 ≤ 4000; decide⟩ ?_
  repeat (first | refine ow_addC (by decide) rfl rfl rfl (by omega) ?_ | refine ow_f (by decide) trivial rfl ?_ | refine ow_nil ?_ | refine cw_seq ?_ | refine cw_region ?_ | refine SeqK.normal ?_ | refine SeqK.ret ?_ | refine SeqK.exit ?_ | refine cw_block ?_ | refine BlockK.normal ?_ | refine BlockK.ret ?_ | refine BlockK.here ?_ | refine BlockK.there rfl ?_ | refine cw_true rfl ?_ | refine cw_false rfl ?_ | refine cw_skip ?_ | refine cw_exit ?_ | refine cw_ret ?_ | refine LoopK.ret ?_ | refine LoopK.exit ?_ | refine ow_fn trivial rfl ?_)
  refine cw_loop_told (fun k => k ≤ xs.length ∧ idxS xs x 0 = idxS (xs.drop k) x k) (fun k => [(0, .slice .sh xs.length (xs.map .str)), (1, .str x), (7, .int .i64 (Int.ofNat xs.length)), (8, .int .i64 (Int.ofNat k))])
    (fun _ => St.empty) (fun k => xs.length - k) 0 ⟨Nat.zero_le _, rfl⟩ ⟨rfl, rfl, rfl, rfl, trivial⟩ rfl (resp_block (resp_seq resp_ret)) ?_
  intro k g ⟨hk, hi⟩
  repeat (first | refine ow_addC (by decide) rfl rfl rfl (by omega) ?_ | refine ow_f (by decide) trivial rfl ?_ | refine ow_nil ?_ | refine cw_seq ?_ | refine cw_region ?_ | refine SeqK.normal ?_ | refine SeqK.ret ?_ | refine SeqK.exit ?_ | refine cw_block ?_ | refine BlockK.normal ?_ | refine BlockK.ret ?_ | refine BlockK.here ?_ | refine BlockK.there rfl ?_ | refine cw_true rfl ?_ | refine cw_false rfl ?_ | refine cw_skip ?_ | refine cw_exit ?_ | refine cw_ret ?_ | refine LoopK.ret ?_ | refine LoopK.exit ?_ | refine ow_fn trivial rfl ?_)
  refine cw_cond rfl (fun ht => ?_) (fun hf => ?_)
  · have hlt := lt_of_dec ht
    repeat (first | refine ow_addC (by decide) rfl rfl rfl (by omega) ?_ | refine ow_f (by decide) trivial rfl ?_ | refine ow_nil ?_ | refine cw_seq ?_ | refine cw_region ?_ | refine SeqK.normal ?_ | refine SeqK.ret ?_ | refine SeqK.exit ?_ | refine cw_block ?_ | refine BlockK.normal ?_ | refine BlockK.ret ?_ | refine BlockK.here ?_ | refine BlockK.there rfl ?_ | refine cw_true rfl ?_ | refine cw_false rfl ?_ | refine cw_skip ?_ | refine cw_exit ?_ | refine cw_ret ?_ | refine LoopK.ret ?_ | refine LoopK.exit ?_ | refine ow_fn trivial rfl ?_)
    refine ow_indexAddr (by decide) rfl rfl rfl rfl rfl hlt ?_
    refine ow_load_imm (v := .str xs[k]) (by decide) rfl rfl (loadL_one rfl rfl (by simp [hlt])) ?_
    repeat (first | refine ow_addC (by decide) rfl rfl rfl (by omega) ?_ | refine ow_f (by decide) trivial rfl ?_ | refine ow_nil ?_ | refine cw_seq ?_ | refine cw_region ?_ | refine SeqK.normal ?_ | refine SeqK.ret ?_ | refine SeqK.exit ?_ | refine cw_block ?_ | refine BlockK.normal ?_ | refine BlockK.ret ?_ | refine BlockK.here ?_ | refine BlockK.there rfl ?_ | refine cw_true rfl ?_ | refine cw_false rfl ?_ | refine cw_skip ?_ | refine cw_exit ?_ | refine cw_ret ?_ | refine LoopK.ret ?_ | refine LoopK.exit ?_ | refine ow_fn trivial rfl ?_)
    have hd : xs.drop k = xs[k] :: xs.drop (k + 1) := List.drop_eq_getElem_cons hlt
    rw [hd] at hi
    refine cw_cond rfl (fun he => ?_) (fun he => ?_)
    · repeat (first | refine ow_addC (by decide) rfl rfl rfl (by omega) ?_ | refine ow_f (by decide) trivial rfl ?_ | refine ow_nil ?_ | refine cw_seq ?_ | refine cw_region ?_ | refine SeqK.normal ?_ | refine SeqK.ret ?_ | refine SeqK.exit ?_ | refine cw_block ?_ | refine BlockK.normal ?_ | refine BlockK.ret ?_ | refine BlockK.here ?_ | refine BlockK.there rfl ?_ | refine cw_true rfl ?_ | refine cw_false rfl ?_ | refine cw_skip ?_ | refine cw_exit ?_ | refine cw_ret ?_ | refine LoopK.ret ?_ | refine LoopK.exit ?_ | refine ow_fn trivial rfl ?_)
      refine k_ret rfl ?_
      rw [hi]
      simp only [idxS, he]
      rfl
    · repeat (first | refine ow_addC (by decide) rfl rfl rfl (by omega) ?_ | refine ow_f (by decide) trivial rfl ?_ | refine ow_nil ?_ | refine cw_seq ?_ | refine cw_region ?_ | refine SeqK.normal ?_ | refine SeqK.ret ?_ | refine SeqK.exit ?_ | refine cw_block ?_ | refine BlockK.normal ?_ | refine BlockK.ret ?_ | refine BlockK.here ?_ | refine BlockK.there rfl ?_ | refine cw_true rfl ?_ | refine cw_false rfl ?_ | refine cw_skip ?_ | refine cw_exit ?_ | refine cw_ret ?_ | refine LoopK.ret ?_ | refine LoopK.exit ?_ | refine ow_fn trivial rfl ?_)
      refine k_loop_n (k + 1) ⟨hlt, ?_⟩ (by omega) rfl ⟨rfl, rfl, rfl, rfl, trivial⟩
      rw [hi]
      simp only [idxS, he]
      rfl
  · have hge := not_lt_of_dec hf
    repeat (first | refine ow_addC (by decide) rfl rfl rfl (by omega) ?_ | refine ow_f (by decide) trivial rfl ?_ | refine ow_nil ?_ | refine cw_seq ?_ | refine cw_region ?_ | refine SeqK.normal ?_ | refine SeqK.ret ?_ | refine SeqK.exit ?_ | refine cw_block ?_ | refine BlockK.normal ?_ | refine BlockK.ret ?_ | refine BlockK.here ?_ | refine BlockK.there rfl ?_ | refine cw_true rfl ?_ | refine cw_false rfl ?_ | refine cw_skip ?_ | refine cw_exit ?_ | refine cw_ret ?_ | refine LoopK.ret ?_ | refine LoopK.exit ?_ | refine ow_fn trivial rfl ?_)
    refine k_ret rfl ?_
    have : xs.drop k = [] := List.drop_eq_nil_of_le hge
    rw [hi, this]
    rfl

theorem Tryz.slices_Index_nil (x : List Nat) : ∀ S, callW Tryz.E 31 [.nilslice, .str x] S = some (.int .i64 (-1), S) := by
  refine call_pure (fn := Tryz.f31) rfl rfl rfl rfl rfl ⟨by show 2 ≤ 19; decide, by show 2 ≤ 4000; decide⟩ ?_
  repeat (first | refine ow_addC (by decide) rfl rfl rfl (by omega) ?_ | refine ow_f (by decide) trivial rfl ?_ | refine ow_nil ?_ | refine cw_seq ?_ | refine cw_region ?_ | refine SeqK.normal ?_ | refine SeqK.ret ?_ | refine SeqK.exit ?_ | refine cw_block ?_ | refine BlockK.normal ?_ | refine BlockK.ret ?_ | refine BlockK.here ?_ | refine BlockK.there rfl ?_ | refine cw_true rfl ?_ | refine cw_false rfl ?_ | refine cw_skip ?_ | refine cw_exit ?_ | refine cw_ret ?_ | refine LoopK.ret ?_ | refine LoopK.exit ?_ | refine ow_fn trivial rfl ?_)
  refine cw_loop ?_
  repeat (first | refine ow_addC (by decide) rfl rfl rfl (by omega) ?_ | refine ow_f (by decide) trivial rfl ?_ | refine ow_nil ?_ | refine cw_seq ?_ | refine cw_region ?_ | refine SeqK.normal ?_ | refine SeqK.ret ?_ | refine SeqK.exit ?_ | refine cw_block ?_ | refine BlockK.normal ?_ | refine BlockK.ret ?_ | refine BlockK.here ?_ | refine BlockK.there rfl ?_ | refine cw_true rfl ?_ | refine cw_false rfl ?_ | refine cw_skip ?_ | refine cw_exit ?_ | refine cw_ret ?_ | refine LoopK.ret ?_ | refine LoopK.exit ?_ | refine ow_fn trivial rfl ?_)
  exact k_ret rfl rfl

theorem idxS_ge : ∀ (xs : List (List Nat)) (x : List Nat) (k : Nat), idxS xs x k = -1 ∨ 0 ≤ idxS xs x k
  | [], _, _ => .inl rfl
  | a :: r, x, k => by
    unfold idxS
    cases listEq x a with
    | true => exact .inr (Int.natCast_nonneg _)
    | false => exact idxS_ge r x (k + 1)

theorem Tryz.slices_Contains (xs : List (List Nat)) (x : List Nat) (h : xs.length < 2 ^ 62) : ∀ S, callW Tryz.E 73 [.slice .sh xs.length (xs.map .str), .str x] S = some (.bool (decide (idxS xs x 0 ≥ 0)), S) := by
  refine call_pure (fn := Tryz.f73) rfl rfl rfl rfl rfl ⟨by show 2 ≤ 9; decide, by show 2 ≤ 4000; decide⟩ ?_
  repeat (first | refine ow_addC (by decide) rfl rfl rfl (by omega) ?_ | refine ow_f (by decide) trivial rfl ?_ | refine ow_nil ?_ | refine cw_seq ?_ | refine cw_region ?_ | refine SeqK.normal ?_ | refine SeqK.ret ?_ | refine SeqK.exit ?_ | refine cw_block ?_ | refine BlockK.normal ?_ | refine BlockK.ret ?_ | refine BlockK.here ?_ | refine BlockK.there rfl ?_ | refine cw_true rfl ?_ | refine cw_false rfl ?_ | refine cw_skip ?_ | refine cw_exit ?_ | refine cw_ret ?_ | refine LoopK.ret ?_ | refine LoopK.exit ?_ | refine ow_fn trivial rfl ?_)
  refine ow_call (by decide) rfl rfl rfl (Tryz.slices_Index xs x h _) ?_
  repeat (first | refine ow_addC (by decide) rfl rfl rfl (by omega) ?_ | refine ow_f (by decide) trivial rfl ?_ | refine ow_nil ?_ | refine cw_seq ?_ | refine cw_region ?_ | refine SeqK.normal ?_ | refine SeqK.ret ?_ | refine SeqK.exit ?_ | refine cw_block ?_ | refine BlockK.normal ?_ | refine BlockK.ret ?_ | refine BlockK.here ?_ | refine BlockK.there rfl ?_ | refine cw_true rfl ?_ | refine cw_false rfl ?_ | refine cw_skip ?_ | refine cw_exit ?_ | refine cw_ret ?_ | refine LoopK.ret ?_ | refine LoopK.exit ?_ | refine ow_fn trivial rfl ?_)
  exact k_ret rfl rfl

theorem Tryz.slices_Contains_nil (x : List Nat) : ∀ S, callW Tryz.E 73 [.nilslice, .str x] S = some (.bool false, S) := by
  refine call_pure (fn := Tryz.f73) rfl rfl rfl rfl rfl ⟨by show 2 ≤ 9; decide, by show 2 ≤ 4000; decide⟩ ?_
  repeat (first | refine ow_addC (by decide) rfl rfl rfl (by omega) ?_ | refine ow_f (by decide) trivial rfl ?_ | refine ow_nil ?_ | refine cw_seq ?_ | refine cw_region ?_ | refine SeqK.normal ?_ | refine SeqK.ret ?_ | refine SeqK.exit ?_ | refine cw_block ?_ | refine BlockK.normal ?_ | refine BlockK.ret ?_ | refine BlockK.here ?_ | refine BlockK.there rfl ?_ | refine cw_true rfl ?_ | refine cw_false rfl ?_ | refine cw_skip ?_ | refine cw_exit ?_ | refine cw_ret ?_ | refine LoopK.ret ?_ | refine LoopK.exit ?_ | refine ow_fn trivial rfl ?_)
  refine ow_call (by decide) rfl rfl rfl (Tryz.slices_Index_nil x _) ?_
  repeat (first | refine ow_addC (by decide) rfl rfl rfl (by omega) ?_ | refine ow_f (by decide) trivial rfl ?_ | refine ow_nil ?_ | refine cw_seq ?_ | refine cw_region ?_ | refine SeqK.normal ?_ | refine SeqK.ret ?_ | refine SeqK.exit ?_ | refine cw_block ?_ | refine BlockK.normal ?_ | refine BlockK.ret ?_ | refine BlockK.here ?_ | refine BlockK.there rfl ?_ | refine cw_true rfl ?_ | refine cw_false rfl ?_ | refine cw_skip ?_ | refine cw_exit ?_ | refine cw_ret ?_ | refine LoopK.ret ?_ | refine LoopK.exit ?_ | refine ow_fn trivial rfl ?_)
  exact k_ret rfl rfl

/-- Cells that are texts alone. -/
def strsOf : List PV → Option (List (List Nat))
  | [] => some []
  | .str x :: r => match strsOf r with
    | some xs => some (x :: xs)
    | none => none
  | _ => none

theorem strsOf_eq : ∀ {c : List PV} {xs : List (List Nat)}, strsOf c = some xs → c = xs.map .str
  | [], xs, h => by simp [strsOf] at h; subst h; rfl
  | p :: r, xs, h => by
    unfold strsOf at h
    split at h
    · rename_i hh; cases hh
    · rename_i x r' hh
      injection hh with h1 h2
      subst h1; subst h2
      split at h
      · rename_i ys hy
        cases h
        rw [strsOf_eq hy]; rfl
      · cases h
    · cases h

/-- slices.Index and slices.Contains of texts are known. -/
def Tryz.kSlices : Known := fun f args =>
  bif Nat.beq f 31 then (match args with
    | [.slice .sh n c, .str x] => (match strsOf c with
      | some xs => bif Nat.beq n xs.length && Nat.blt n 4611686018427387904 then some (.int .i64 (idxS xs x 0)) else none
      | none => none)
    | _ => none)
  else bif Nat.beq f 73 then (match args with
    | [.slice .sh n c, .str x] => (match strsOf c with
      | some xs => bif Nat.beq n xs.length && Nat.blt n 4611686018427387904 then some (.bool (decide (idxS xs x 0 ≥ 0))) else none
      | none => none)
    | _ => none)
  else none

theorem Tryz.kSlices_ok : KnownOk Tryz.E Tryz.kSlices := by
  intro f a v h
  simp only [Tryz.kSlices, cond_eq_ite, nat_beq, Bool.and_eq_true, Nat.blt_eq] at h
  split at h
  · rename_i hf; subst hf
    split at h
    · rename_i n c x
      split at h
      · rename_i xs hx
        split at h
        · rename_i hn
          obtain ⟨rfl, hlt⟩ := hn
          cases h
          rw [strsOf_eq hx]
          exact Tryz.slices_Index xs x hlt
        · cases h
      · cases h
    · cases h
  · split at h
    · rename_i hf; subst hf
      split at h
      · rename_i n c x
        split at h
        · rename_i xs hx
          split at h
          · rename_i hn
            obtain ⟨rfl, hlt⟩ := hn
            cases h
            rw [strsOf_eq hx]
            exact Tryz.slices_Contains xs x hlt
          · cases h
        · cases h
      · cases h
    · cases h

end Go.Proofs
