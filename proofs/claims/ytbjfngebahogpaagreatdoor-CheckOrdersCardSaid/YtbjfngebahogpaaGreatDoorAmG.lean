/- Data that is read out of memory, as the machine's values. No condition. -/
import Derived.Test.YtbjfngebahogpaaGreatDoorAmF
import GoSem.ClaimJoined
namespace Go.Am

/-- All that lies in memory when a call begins is known. -/
def sgOf (w : World) (b k : Nat) : Option Value := w.cell? ⟨b, k, none⟩

/-- How much a value holds. -/
def PV.wt : PV → Nat
  | .str l => l.length + 1
  | .slice _ _ cells => wts cells + 1
  | _ => 1
 where wts : List PV → Nat
  | [] => 0
  | v :: r => v.wt + wts r

/-- Cells of a type: numbers, truths, texts, rows, and what is made of them. -/
inductive Shape (P : Program) : Nat → List PV → Prop
  | bool {t : Nat} (h : P.underlying t = some .bool) (b : Bool) : Shape P t [.bool b]
  | int {t : Nat} {k : IntKind} (h : P.underlying t = some (.int k)) (n : Int) (hw : (Lit.int k n).wf = true) : Shape P t [.int k n]
  | str {t : Nat} (h : P.underlying t = some .string) (l : List Nat) (hl : ∀ b ∈ l, b < 256) (hm : l.length ≤ maxLen) : Shape P t [.str l]
  | nil {t e : Nat} (h : P.underlying t = some (.slice e)) : Shape P t [.nilslice]
  | slice {t e : Nat} (h : P.underlying t = some (.slice e)) (parts : List (List PV)) (hm : parts.length ≤ maxLen) (hp : ∀ p ∈ parts, Shape P e p) : Shape P t [.slice .sh parts.length parts.flatten]
  | struct {t : Nat} {F : Array Field} (h : P.underlying t = some (.struct F)) (parts : List (List PV)) (hl : parts.length = F.size) (hp : ∀ (i : Nat) f p, F[i]? = some f → parts[i]? = some p → Shape P f.type p) : Shape P t parts.flatten
  | arr {t n e : Nat} (h : P.underlying t = some (.array n e)) (parts : List (List PV)) (hl : parts.length = n) (hp : ∀ p ∈ parts, Shape P e p) : Shape P t parts.flatten

def offsOk (P : Program) : Nat → List Field → Nat → Bool
  | k, [], n => Nat.beq k n
  | k, f :: r, n => Nat.beq f.offset k && offsOk P (k + P.cellsOf f.type) r n

/-- Is a type made of numbers, truths, texts, rows alone, of types of g? -/
def rowOk (P : Program) (g : Nat → Bool) (t : Nat) : Bool :=
  match P.underlying t with
  | some .bool => Nat.beq (P.cellsOf t) 1
  | some (.int _) => Nat.beq (P.cellsOf t) 1
  | some .string => Nat.beq (P.cellsOf t) 1
  | some (.slice e) => g e && (Nat.blt 0 (P.cellsOf e) && Nat.beq (P.cellsOf t) 1)
  | some (.struct F) => F.toList.all (fun f => g f.type) && offsOk P 0 F.toList (P.cellsOf t)
  | some (.array n e) => g e && Nat.beq (P.cellsOf t) (n * P.cellsOf e)
  | _ => false

mutual
/-- How much a datum holds. -/
def bulkD {H : Type} : DataW H → Nat
  | .lit (.string bytes) => bytes.length + 1
  | .lit _ => 1
  | .nil => 1
  | .ptr d => bulkD d + 1
  | .slice elems spare => bulkL elems + bulkL spare + 1
  | .agg parts => bulkL parts + 1
  | .iface _ d => bulkD d + 1
  | .map entries => bulkE entries + 1
  | .held _ => 1
def bulkL {H : Type} : List (DataW H) → Nat
  | [] => 0
  | d :: r => bulkD d + bulkL r
def bulkE {H : Type} : List (Lit × DataW H) → Nat
  | [] => 0
  | x :: r => bulkP x + bulkE r
def bulkP {H : Type} : Lit × DataW H → Nat
  | (.string bytes, d) => bytes.length + bulkD d + 1
  | (_, d) => bulkD d + 1
end

mutual
/-- A datum's cells. -/
def pvD {H : Type} : DataW H → List PV
  | .lit (.bool b) => [.bool b]
  | .lit (.int k n) => [.int k n]
  | .lit (.string bytes) => [.str (bytes.map UInt8.toNat)]
  | .nil => [.nilslice]
  | .slice elems _ => [.slice .sh elems.length (pvL elems)]
  | .agg parts => pvL parts
  | _ => []
def pvL {H : Type} : List (DataW H) → List PV
  | [] => []
  | d :: r => pvD d ++ pvL r
end

theorem pvL_flatten {H : Type} : ∀ (ds : List (DataW H)), pvL ds = (ds.map pvD).flatten
  | [] => rfl
  | d :: r => by simp only [pvL, List.map_cons, List.flatten_cons, pvL_flatten r]

theorem mapM_some {α β : Type} {f : α → Option β} : ∀ {l : List α} {r : List β}, l.mapM f = some r → r.length = l.length ∧ ∀ (i : Nat) a b, l[i]? = some a → r[i]? = some b → f a = some b
  | [], r, h => by simp at h; subst h; exact ⟨rfl, fun i a b h => by simp at h⟩
  | x :: l, r, h => by
    simp only [List.mapM_cons] at h
    cases hx : f x with
    | none => rw [hx] at h; cases h
    | some y =>
      cases hl : l.mapM f with
      | none => rw [hx, hl] at h; cases h
      | some ys =>
        rw [hx, hl] at h
        simp at h; subst h
        obtain ⟨h1, h2⟩ := mapM_some hl
        refine ⟨by simp [h1], fun i a b ha hb => ?_⟩
        cases i with
        | zero => simp at ha hb; subst ha; subst hb; exact hx
        | succ i => exact h2 i a b (by simpa using ha) (by simpa using hb)

/-- Cells stand for values. -/
def CellsRel (sg : Nat → Nat → Option Value) (l : List PV) (cs : List Value) : Prop :=
  l.length = cs.length ∧ ∀ (i : Nat) p v, l[i]? = some p → cs[i]? = some v → CRel sg p v ∧ p.one = true

theorem CellsRel.nil (sg : Nat → Nat → Option Value) : CellsRel sg [] [] := ⟨rfl, fun i p v h => by simp at h⟩

theorem CellsRel.one {sg : Nat → Nat → Option Value} {p : PV} {v : Value} (h : CRel sg p v) (ho : p.one = true) : CellsRel sg [p] [v] :=
  ⟨rfl, fun i q u h1 h2 => by
    cases i with
    | zero => simp at h1 h2; subst h1; subst h2; exact ⟨h, ho⟩
    | succ i => simp at h1⟩

theorem CellsRel.append {sg : Nat → Nat → Option Value} {l m : List PV} {cs ds : List Value} (h : CellsRel sg l cs) (h' : CellsRel sg m ds) : CellsRel sg (l ++ m) (cs ++ ds) := by
  refine ⟨by simp [h.1, h'.1], fun i p v h1 h2 => ?_⟩
  by_cases e : i < l.length
  · have e' : i < cs.length := by rw [← h.1]; exact e
    rw [List.getElem?_append_left e] at h1
    rw [List.getElem?_append_left e'] at h2
    exact h.2 i p v h1 h2
  · rw [List.getElem?_append_right (by omega)] at h1
    rw [List.getElem?_append_right (by have := h.1; omega)] at h2
    rw [h.1] at h1
    exact h'.2 _ p v h1 h2

theorem CellsRel.flatten {sg : Nat → Nat → Option Value} : ∀ {ls : List (List PV)} {css : List (List Value)}, ls.length = css.length → (∀ (i : Nat) l cs, ls[i]? = some l → css[i]? = some cs → CellsRel sg l cs) → CellsRel sg ls.flatten css.flatten
  | [], [], _, _ => CellsRel.nil _
  | l :: ls, cs :: css, hl, h => by
    simp only [List.flatten_cons]
    exact (h 0 l cs rfl rfl).append (CellsRel.flatten (by simpa using hl) fun i l cs h1 h2 => h (i + 1) l cs (by simpa using h1) (by simpa using h2))

theorem wts_append : ∀ (l m : List PV), PV.wt.wts (l ++ m) = PV.wt.wts l + PV.wt.wts m
  | [], m => by simp [PV.wt.wts]
  | v :: l, m => by simp only [List.cons_append, PV.wt.wts, wts_append l m]; omega

theorem bulkL_append {H : Type} : ∀ (l m : List (DataW H)), bulkL (l ++ m) = bulkL l + bulkL m
  | [], m => by simp [bulkL]
  | v :: l, m => by simp only [List.cons_append, bulkL, bulkL_append l m]; omega

/-- Equal parts of a row of cells. -/
theorem chunks_flatten {α : Type} : ∀ (n s : Nat) (cs : List α), cs.length = n * s → ((List.range n).map fun i => (cs.drop (i * s)).take s).flatten = cs
  | 0, s, cs, h => by simp at h; subst h; rfl
  | n + 1, s, cs, h => by
    rw [List.range_succ_eq_map, List.map_cons, List.flatten_cons, List.map_map]
    have hs : s ≤ cs.length := by rw [h, Nat.succ_mul]; omega
    have := chunks_flatten n s (cs.drop s) (by rw [List.length_drop, h, Nat.succ_mul]; omega)
    have e : ((List.range n).map ((fun i => (cs.drop (i * s)).take s) ∘ Nat.succ)) = (List.range n).map fun i => ((cs.drop s).drop (i * s)).take s := by
      refine List.map_congr_left fun i _ => ?_
      simp only [Function.comp, List.drop_drop]
      congr 2
      rw [Nat.succ_mul]; omega
    rw [e, this]
    simp

theorem fields_flatten {P : Program} {α : Type} : ∀ (F : List Field) (k n : Nat) (cs : List α), offsOk P k F n = true → cs.length = n → (F.map fun f => (cs.drop f.offset).take (P.cellsOf f.type)).flatten = cs.drop k ∧ k ≤ n
  | [], k, n, cs, h, hl => by
    simp only [offsOk, nat_beq] at h
    subst h
    simp [← hl]
  | f :: F, k, n, cs, h, hl => by
    simp only [offsOk, Bool.and_eq_true, nat_beq] at h
    obtain ⟨h1, h2⟩ := h
    obtain ⟨h3, h4⟩ := fields_flatten F _ n cs h2 hl
    refine ⟨?_, by omega⟩
    rw [List.map_cons, List.flatten_cons, h3, h1, ← List.drop_drop]
    exact List.take_append_drop _ _

section
variable {H : Type} {enc : TypeId × Value → H} {P : Program} {w : World} {g : Nat → Bool}

/-- What a reading gives. -/
def Got (P : Program) (w : World) (t : Nat) (cs : List Value) (d : DataW H) : Prop :=
  Shape P t (pvD d) ∧ CellsRel (sgOf w) (pvD d) cs ∧ PV.wt.wts (pvD d) ≤ bulkD d

theorem parts_got {css : List (List Value)} {ts : List Nat} {ds : List (DataW H)} : ∀ (_ : css.length = ts.length) (_ : ds.length = ts.length),
    (∀ (i : Nat) t cs d, ts[i]? = some t → css[i]? = some cs → ds[i]? = some d → Got P w t cs d) →
    (∀ (i : Nat) t d, ts[i]? = some t → ds[i]? = some d → Shape P t (pvD d)) ∧ CellsRel (sgOf w) (pvL ds) css.flatten ∧ PV.wt.wts (pvL ds) ≤ bulkL ds := by
  induction ts generalizing css ds with
  | nil =>
    intro h1 h2 _
    have e1 : css = [] := List.eq_nil_of_length_eq_zero h1
    have e2 : ds = [] := List.eq_nil_of_length_eq_zero h2
    subst e1; subst e2
    exact ⟨fun i t l h => by simp at h, CellsRel.nil _, by simp [PV.wt.wts, bulkL, pvL]⟩
  | cons t ts ih =>
    intro h1 h2 h
    match css, ds, h1, h2 with
    | cs :: css, d :: ds, h1, h2 =>
      obtain ⟨a1, a2, a3⟩ := h 0 t cs d rfl rfl rfl
      obtain ⟨b2, b3, b4⟩ := ih (css := css) (ds := ds) (by simpa using h1) (by simpa using h2) fun i t cs d q1 q2 q3 => h (i + 1) t cs d (by simpa using q1) (by simpa using q2) (by simpa using q3)
      refine ⟨fun i t' l' q1 q2 => ?_, ?_, ?_⟩
      · cases i with
        | zero => simp at q1 q2; subst q1; subst q2; exact a1
        | succ i => exact b2 i t' l' (by simpa using q1) (by simpa using q2)
      · simp only [List.flatten_cons, pvL]; exact a2.append b3
      · simp only [wts_append, bulkL, pvL]; omega

/-- The cells from an address on. -/
theorem cells_row {a : Addr} {n : Nat} {cs : List Value} (h : w.cells? 0 a n = some cs) : cs.length = n ∧ ∀ (i : Nat) v, cs[i]? = some v → w.cell? (a.add i) = some v := by
  unfold World.cells? at h
  rw [if_pos (Nat.zero_le _)] at h
  obtain ⟨h1, h2⟩ := mapM_some h
  simp at h1
  refine ⟨h1, fun i v hv => ?_⟩
  have : i < n := by
    rcases Nat.lt_or_ge i cs.length with h' | h'
    · omega
    · simp [h'] at hv
  exact h2 i i v (by simp [this]) hv

theorem add_spot {a : Addr} {v : Value} (h : w.cell? a = some v) : a.spot = none := by
  unfold World.cell? at h
  split at h
  · split at h
    · cases h
    · rename_i hs; cases hh : a.spot with
      | none => rfl
      | some x => rw [hh] at hs; simp at hs
  · cases h

theorem trod_got {held : Bool} (hg : ∀ t, g t = true → rowOk P g t = true) : ∀ (fuel t : Nat) (cs : List Value) (d : DataW H) (ps : List MemPlace), g t = true →
    DataW.trod enc P w 0 (fun _ => true) held fuel t cs = some (d, ps) → cs.length = P.cellsOf t ∧ Got P w t cs d := by
  intro fuel
  induction fuel with
  | zero => intro t cs d ps _ h; simp [DataW.trod] at h
  | succ fuel ih =>
    intro t cs d ps ht h
    have hr := hg t ht
    unfold rowOk at hr
    unfold DataW.trod at h
    cases hu : P.underlying t with
    | none => rw [hu] at hr; cases hr
    | some D =>
      rw [hu] at hr h
      cases D <;> simp only [reduceCtorEq] at hr
      case bool =>
        rw [nat_beq] at hr
        split at h
        all_goals try cases ‹some (_ : TypeDesc) = some _›
        · simp at h; obtain ⟨rfl, _⟩ := h
          exact ⟨hr.symm, .bool hu _, CellsRel.one (.bool _) rfl, by simp [PV.wt.wts, PV.wt, bulkD, pvD]⟩
        · cases h
      case int k =>
        rw [nat_beq] at hr
        split at h
        all_goals try cases ‹some (_ : TypeDesc) = some _›
        · split at h
          · rename_i hk
            obtain ⟨rfl, hwf⟩ := hk
            simp at h; obtain ⟨rfl, _⟩ := h
            exact ⟨hr.symm, .int hu _ hwf, CellsRel.one (.int _ _) rfl, by simp [PV.wt.wts, PV.wt, bulkD, pvD]⟩
          · cases h
        · cases h
      case string =>
        rw [nat_beq] at hr
        split at h
        all_goals try cases ‹some (_ : TypeDesc) = some _›
        · rename_i s
          split at h
          · rename_i hm
            simp at h; obtain ⟨rfl, _⟩ := h
            refine ⟨hr.symm, .str hu (bytesL s) (fun b hb => ?_) (by simpa [bytesL] using hm), CellsRel.one (.str s) rfl, by simp [PV.wt.wts, PV.wt, bulkD, pvD]⟩
            simp only [bytesL, List.mem_map] at hb
            obtain ⟨x, _, rfl⟩ := hb
            exact x.toNat_lt
          · cases h
        · cases h
      case slice e =>
        simp only [Bool.and_eq_true, Nat.blt_eq, nat_beq] at hr
        obtain ⟨hge, hs0, hr1⟩ := hr
        split at h
        all_goals try cases ‹some (_ : TypeDesc) = some _›
        · simp at h; obtain ⟨rfl, _⟩ := h
          exact ⟨hr1.symm, .nil hu, CellsRel.one .nilslice rfl, by simp [PV.wt.wts, PV.wt, bulkD, pvD]⟩
        · rename_i a len cap
          dsimp only at h
          split at h
          rotate_left
          · cases h
          rename_i hcond
          obtain ⟨hb0, hlc, hcm⟩ := hcond
          rw [Option.bind_eq_some_iff] at h
          obtain ⟨elems, he, h⟩ := h
          rw [Option.map_eq_some_iff] at h
          obtain ⟨rest, _, h⟩ := h
          simp at h; obtain ⟨rfl, _⟩ := h
          obtain ⟨m1, m2⟩ := mapM_some he
          simp at m1
          have each : ∀ i, i < len → ∃ cs d q, w.cells? 0 (a.add (i * P.cellsOf e)) (P.cellsOf e) = some cs ∧ DataW.trod enc P w 0 (fun _ => true) held fuel e cs = some (d, q) ∧ elems[i]? = some (d, q) := by
            intro i hi
            have hi' : i < elems.length := by omega
            have := m2 i i elems[i] (by simp [hi]) (by simp [hi'])
            rw [Option.bind_eq_some_iff] at this
            obtain ⟨cs, h1, h2⟩ := this
            exact ⟨cs, elems[i].1, elems[i].2, h1, h2, by simp [hi']⟩
          have hcs : ∀ i, i < len → (w.cells? 0 (a.add (i * P.cellsOf e)) (P.cellsOf e)).isSome := fun i hi => by obtain ⟨cs, _, _, h1, _⟩ := each i hi; rw [h1]; rfl
          let css : List (List Value) := (List.range len).map fun i => (w.cells? 0 (a.add (i * P.cellsOf e)) (P.cellsOf e)).getD []
          generalize hds : elems.map (·.1) = ds at *
          obtain ⟨l2, l3, l4⟩ := parts_got (P := P) (w := w) (css := css) (ts := List.replicate len e) (ds := ds) (by simp [css]) (by simp [← hds, m1]) (fun i t cs d q1 q2 q3 => by
            have hi : i < len := by
              rcases Nat.lt_or_ge i len with h' | h'
              · exact h'
              · rw [List.getElem?_replicate, if_neg (by omega)] at q1; cases q1
            rw [List.getElem?_replicate, if_pos hi] at q1; cases q1
            obtain ⟨cs', d', q', h1, h2, h3⟩ := each i hi
            have : cs = cs' := by
              simp [css, hi, h1] at q2
              exact q2.symm
            subst this
            rw [← hds, List.getElem?_map, h3] at q3
            simp at q3; subst q3
            exact (ih e cs d' q' hge h2).2)
          have hlen : ds.length = len := by simp [← hds, m1]
          have hpos : 0 < len → a.spot = none := by
            intro hl
            obtain ⟨cs, d, q, h1, _, _⟩ := each 0 hl
            obtain ⟨c1, c2⟩ := cells_row h1
            have := c2 0 (cs[0]'(by omega)) (by simp [show 0 < cs.length by omega])
            simp [Addr.add] at this
            exact add_spot this
          have hpv : ∀ sp, pvD (.slice ds sp : DataW H) = [.slice .sh (ds.map pvD).length (ds.map pvD).flatten] := fun sp => by simp only [pvD, pvL_flatten, List.length_map]
          refine ⟨hr1.symm, ?_, ?_, ?_⟩
          · rw [hpv]
            refine .slice hu (ds.map pvD) (by simp; omega) (fun p hp => ?_)
            obtain ⟨d, hd, rfl⟩ := List.mem_map.1 hp
            obtain ⟨i, hi, rfl⟩ := List.getElem_of_mem hd
            exact l2 i e ds[i] (by rw [List.getElem?_replicate, if_pos (by omega)]) (by simp [hi])
          · rw [hpv]; rw [pvL_flatten] at l3
            have hlen : (ds.map pvD).length = len := by simpa using hlen
            generalize ds.map pvD = ls at l3 hlen
            refine CellsRel.one ?_ rfl
            rcases Nat.eq_zero_or_pos len with h0 | h0
            · subst h0
              have : ls = [] := List.eq_nil_of_length_eq_zero hlen
              subst this
              exact .she a cap
            · obtain ⟨b, o, s⟩ := a
              have hsp := hpos h0
              cases hsp
              -- where each cell lies
              have hflat : css.flatten.length = len * P.cellsOf e ∧ ∀ k v, css.flatten[k]? = some v → w.cell? ⟨b, o + k, none⟩ = some v := by
                have key : ∀ n, n ≤ len → (((List.range n).map fun i => (w.cells? 0 ((⟨b, o, none⟩ : Addr).add (i * P.cellsOf e)) (P.cellsOf e)).getD []).flatten.length = n * P.cellsOf e ∧
                    ∀ k v, ((List.range n).map fun i => (w.cells? 0 ((⟨b, o, none⟩ : Addr).add (i * P.cellsOf e)) (P.cellsOf e)).getD []).flatten[k]? = some v → w.cell? ⟨b, o + k, none⟩ = some v) := by
                  intro n
                  induction n with
                  | zero => intro _; exact ⟨by simp, fun k v h => by simp at h⟩
                  | succ n ihn =>
                    intro hn
                    obtain ⟨k1, k2⟩ := ihn (by omega)
                    obtain ⟨cs, d, q, h1, _, _⟩ := each n (by omega)
                    obtain ⟨c1, c2⟩ := cells_row h1
                    rw [List.range_succ, List.map_append, List.flatten_append]
                    simp only [List.map_cons, List.map_nil, List.flatten_cons, List.flatten_nil, List.append_nil, h1, Option.getD_some]
                    refine ⟨by rw [List.length_append, k1, c1, Nat.succ_mul], fun k v hk => ?_⟩
                    by_cases e1 : k < n * P.cellsOf e
                    · rw [List.getElem?_append_left (by omega)] at hk
                      exact k2 k v hk
                    · rw [List.getElem?_append_right (by omega), k1] at hk
                      have := c2 _ v hk
                      rw [Addr.add_lit, Addr.add_lit] at this
                      have e2 : o + n * P.cellsOf e + (k - n * P.cellsOf e) = o + k := by omega
                      rw [e2] at this; exact this
                exact key len (Nat.le_refl _)
              have hl2 : ls.flatten.length = css.flatten.length := l3.1
              have get : ∀ i, i < ls.flatten.length → css.flatten[i]? = some (css.flatten.getD i Go.undef) := fun i hi => by
                have hi' : i < css.flatten.length := by omega
                rw [List.getElem?_eq_getElem hi', List.getD_eq_getElem?_getD, List.getElem?_eq_getElem hi']; rfl
              have hls : ls.length = len := hlen
              rw [hls]
              refine .sh len ls.flatten b o cap (fun i => css.flatten.getD i Go.undef) hlc (fun i hi => (l3.2 i _ _ (by simp [hi]) (get i hi)).2) (fun i hi => hflat.2 i _ (get i hi)) (fun i hi => (l3.2 i _ _ (by simp [hi]) (get i hi)).1)
          · simp only [PV.wt.wts, PV.wt, bulkD, pvD]
            omega
        · cases h
      case struct F =>
        simp only [Bool.and_eq_true, List.all_eq_true] at hr
        obtain ⟨hgf, hof⟩ := hr
        dsimp only at h
        · split at h
          rotate_left
          · cases h
          rename_i hcl
          rw [Option.map_eq_some_iff] at h
          obtain ⟨xs, hx, h⟩ := h
          simp at h; obtain ⟨rfl, _⟩ := h
          obtain ⟨m1, m2⟩ := mapM_some hx
          refine ⟨hcl, ?_⟩
          obtain ⟨l2, l3, l4⟩ := parts_got (P := P) (w := w) (css := F.toList.map fun f => (cs.drop f.offset).take (P.cellsOf f.type)) (ts := F.toList.map (·.type)) (ds := xs.map (·.1)) (by simp) (by simpa using m1) (fun i t c d q1 q2 q3 => by
            rw [List.getElem?_map] at q1 q2 q3
            cases hfi : F.toList[i]? with
            | none => rw [hfi] at q1; cases q1
            | some f =>
              cases hxi : xs[i]? with
              | none => rw [hxi] at q3; cases q3
              | some x =>
                rw [hfi] at q1 q2
                rw [hxi] at q3
                simp at q1 q2 q3
                subst q1; subst q2; subst q3
                exact (ih f.type _ x.1 x.2 (hgf f (List.mem_of_getElem? hfi)) (m2 i f x hfi hxi)).2)
          rw [(fields_flatten F.toList 0 _ cs hof hcl).1, List.drop_zero] at l3
          refine ⟨?_, l3, by simp only [bulkD, pvD]; omega⟩
          simp only [pvD]
          rw [pvL_flatten]
          refine .struct hu _ (by simpa using m1) (fun i f p q1 q2 => ?_)
          rw [List.getElem?_map] at q2
          cases hd : (xs.map (·.1))[i]? with
          | none => rw [hd] at q2; cases q2
          | some d =>
            rw [hd] at q2
            simp at q2; subst q2
            exact l2 i f.type d (by rw [List.getElem?_map, Array.getElem?_toList, q1]; rfl) hd
      case array n e =>
        simp only [Bool.and_eq_true, nat_beq] at hr
        obtain ⟨hge, hof⟩ := hr
        dsimp only at h
        · split at h
          rotate_left
          · cases h
          rename_i hcl
          rw [Option.map_eq_some_iff] at h
          obtain ⟨xs, hx, h⟩ := h
          simp at h; obtain ⟨rfl, _⟩ := h
          obtain ⟨m1, m2⟩ := mapM_some hx
          simp at m1
          refine ⟨hcl, ?_⟩
          obtain ⟨l2, l3, l4⟩ := parts_got (P := P) (w := w) (css := (List.range n).map fun i => (cs.drop (i * P.cellsOf e)).take (P.cellsOf e)) (ts := List.replicate n e) (ds := xs.map (·.1)) (by simp) (by simpa using m1) (fun i t c d q1 q2 q3 => by
            have hi : i < n := by
              rcases Nat.lt_or_ge i n with h' | h'
              · exact h'
              · rw [List.getElem?_replicate, if_neg (by omega)] at q1; cases q1
            rw [List.getElem?_replicate, if_pos hi] at q1; cases q1
            have hix : i < xs.length := by omega
            rw [List.getElem?_map] at q2 q3
            simp [hi, hix] at q2 q3
            subst q2; subst q3
            exact (ih e _ _ _ hge (m2 i i xs[i] (by simp [hi]) (by simp [hix]))).2)
          rw [chunks_flatten n _ cs (by rw [hcl, hof])] at l3
          refine ⟨?_, l3, by simp only [bulkD, pvD]; omega⟩
          simp only [pvD]
          rw [pvL_flatten]
          refine .arr hu _ (by simpa using m1) (fun p hp => ?_)
          obtain ⟨d, hd, rfl⟩ := List.mem_map.1 hp
          obtain ⟨i, hi, rfl⟩ := List.getElem_of_mem hd
          exact l2 i e _ (by rw [List.getElem?_replicate, if_pos (by simp at hi; omega)]) (List.getElem?_eq_getElem hi)

end
end Go.Am

/- The machine's steps as rules for the simplifier: calls with values that are not told. No condition. -/
namespace Go.Am

/-- A code comes to its end, and then Q. -/
structure CW (E : Env) (hp : Bool) (c : Code) (F : Fr) (Q : Ex → Fr → Prop) : Prop where
  out : ∃ e F', codeW E hp c F = some (e, F') ∧ Q e F'

/-- An operation without what a run has no need of: where to, what, on what condition. -/
structure Rop where
  dst : Option Nat
  op : Op
  guard : Option (Nat × Bool)

/-- Operations, their conditions' registers found. -/
def rops (ops : Array Oper) (o : Oper) : Rop := ⟨o.dst, o.op, match o.guard with
  | none => none
  | some (j, want) => match (ops[j]?).bind (·.dst) with
    | some t => some (t, want)
    | none => some (5000, want)⟩

def Fr.put (F : Fr) (d : Option Nat) (v : PV) (S : St) : Fr := ⟨F.n, match d with | none => F.regs | some t => setR t v F.regs, F.defers, S⟩

def dstOk (d : Option Nat) (n : Nat) : Prop :=
  match d with
  | none => True
  | some t => t < n ∧ t < 4000

def noDefer : Op → Prop
  | .defer _ => False
  | _ => True

/-- Operations come to their end, and then K. -/
def ow0 (E : Env) (hp : Bool) : List Rop → Fr → (Fr → Prop) → Prop
  | [], F, K => K F
  | o :: l, F, K => match o.guard with
    | none => dstOk o.dst F.n ∧ noDefer o.op ∧ ∃ v S, opRun E (callW E) hp none (evalO E F.regs) F.S ⟨o.dst, o.op, 0, "", #[], none⟩ = some (v, S) ∧ ow0 E hp l (F.put o.dst v S) K
    | some (t, want) => dstOk o.dst F.n ∧ noDefer o.op ∧ t < 4000 ∧ ∃ b, getR t F.regs = .bool b ∧
      (b = want → ∃ v S, opRun E (callW E) hp none (evalO E F.regs) F.S ⟨o.dst, o.op, 0, "", #[], none⟩ = some (v, S) ∧ ow0 E hp l (F.put o.dst v S) K) ∧
      (b ≠ want → ow0 E hp l (F.put o.dst undef F.S) K)

structure OW (E : Env) (hp : Bool) (l : List Rop) (F : Fr) (K : Fr → Prop) : Prop where
  out : ow0 E hp l F K

section
variable {E : Env} {hp : Bool} {Q : Ex → Fr → Prop} {F : Fr}

theorem opRun_bare (cf : CallF) (at_ : Option Nat) (ev : Operand → Option PV) (S : St) (o o' : Oper) (h : o.op = o'.op) : opRun E cf hp at_ ev S o = opRun E cf hp at_ ev S o' := by
  unfold opRun; rw [h]

theorem putF_put {d : Option Nat} {v : PV} {S : St} (h : dstOk d F.n) : putF F d v F.defers S = some (F.put d v S) := by
  unfold putF Fr.put
  cases d with
  | none => rfl
  | some t =>
    have : t < F.n ∧ t < 4000 := h
    simp [putR, cond_eq_ite, this.1, this.2]

theorem operRun_put {ops : Array Oper} {o : Oper} {v : PV} {S : St} (hg : guardOk ops F.regs o = true) (ho : opRun E (callW E) hp none (evalO E F.regs) F.S ⟨o.dst, o.op, 0, "", #[], none⟩ = some (v, S)) (hd : dstOk o.dst F.n) (hnd : noDefer o.op) :
    operRun E (callW E) hp ops none o F = some (F.put o.dst v S) := by
  rw [opRun_bare (callW E) none _ _ ⟨o.dst, o.op, 0, "", #[], none⟩ o rfl] at ho
  unfold operRun
  rw [hg, cond_true]
  cases hop : o.op <;> first | (rw [hop] at hnd; exact hnd.elim) | (dsimp only; rw [ho]; exact putF_put hd)

theorem ow_run {ops : Array Oper} : ∀ {l : List Oper} {F : Fr} {K : Fr → Prop}, ow0 E hp (l.map (rops ops)) F K → ∃ F', opsRun E (callW E) hp ops l F = some F' ∧ K F'
  | [], F, K, h => ⟨F, rfl, h⟩
  | o :: l, F, K, h => by
    simp only [List.map_cons, ow0, rops] at h
    unfold opsRun
    cases hg : o.guard with
    | none =>
      rw [hg] at h
      obtain ⟨h2, h3, v, S, h1, h4⟩ := h
      rw [operRun_put (by unfold guardOk; rw [hg]) h1 h2 h3]
      exact ow_run h4
    | some x =>
      obtain ⟨j, want⟩ := x
      rw [hg] at h
      dsimp only at h
      cases ht : (ops[j]?).bind (·.dst) with
      | none =>
        rw [ht] at h
        obtain ⟨_, _, h5, _⟩ := h
        omega
      | some t =>
        rw [ht] at h
        obtain ⟨h2, h3, _, b, hb, h6, h7⟩ := h
        have hgo : guardOk ops F.regs o = (b == want) := by
          unfold guardOk
          rw [hg]; dsimp only; rw [ht]; dsimp only; rw [hb]
          cases b <;> cases want <;> rfl
        by_cases he : b = want
        · obtain ⟨v, S, h1, h4⟩ := h6 he
          rw [operRun_put (by rw [hgo, he]; simp) h1 h2 h3]
          exact ow_run h4
        · have h4 := h7 he
          have : operRun E (callW E) hp ops none o F = some (F.put o.dst undef F.S) := by
            unfold operRun
            rw [hgo, show (b == want) = false by simpa using he, cond_false]
            exact putF_put h2
          rw [this]
          exact ow_run h4

theorem cw_of {c : Code} {r : Option (Ex × Fr)} (h : execStep E (callW E) hp (codeW E hp) c F = r) (hr : ∃ e F', r = some (e, F') ∧ Q e F') : CW E hp c F Q := by
  obtain ⟨e, F', rfl, hq⟩ := hr
  exact ⟨⟨e, F', by rw [codeW_eq, h], hq⟩⟩

theorem cw_skip (h : Q .normal F) : CW E hp .skip F Q := cw_of rfl ⟨_, _, rfl, h⟩
theorem cw_label {i : Nat} (h : Q .normal F) : CW E hp (.label i) F Q := cw_of rfl ⟨_, _, rfl, h⟩
theorem cw_exit {id : Nat} (h : Q (.exit id) F) : CW E hp (.exit id) F Q := cw_of rfl ⟨_, _, rfl, h⟩
theorem cw_ret (h : Q .ret F) : CW E hp .ret F Q := cw_of rfl ⟨_, _, rfl, h⟩

theorem cw_region {id : Nat} {ops : Array Oper} (h : OW E hp (ops.toList.map (rops ops)) F (Q .normal)) : CW E hp (.region id ops false) F Q := by
  obtain ⟨F', h1, h2⟩ := ow_run h.out
  refine cw_of rfl ⟨.normal, F', ?_, h2⟩
  simp only [execStep, regionRun, cond_false, h1]

/-- What comes behind, in a row. -/
inductive SeqK (E : Env) (hp : Bool) (b : Code) (Q : Ex → Fr → Prop) : Ex → Fr → Prop
  | normal {F : Fr} (h : CW E hp b F Q) : SeqK E hp b Q .normal F
  | ret {F : Fr} (h : Q .ret F) : SeqK E hp b Q .ret F
  | exit {F : Fr} {k : Nat} (h : Q (.exit k) F) : SeqK E hp b Q (.exit k) F

theorem cw_seq {a b : Code} (h : CW E hp a F (SeqK E hp b Q)) : CW E hp (.seq a b) F Q := by
  obtain ⟨e, F1, h1, h2⟩ := h.out
  cases h2 with
  | normal h2 =>
    obtain ⟨e2, F2, h3, h4⟩ := h2.out
    exact cw_of rfl ⟨e2, F2, by simp only [execStep, h1, h3], h4⟩
  | ret h2 => exact cw_of rfl ⟨.ret, F1, by simp only [execStep, h1], h2⟩
  | exit h2 => exact cw_of rfl ⟨.exit _, F1, by simp only [execStep, h1], h2⟩

inductive BlockK (id : Nat) (Q : Ex → Fr → Prop) : Ex → Fr → Prop
  | normal {F : Fr} (h : Q .normal F) : BlockK id Q .normal F
  | ret {F : Fr} (h : Q .ret F) : BlockK id Q .ret F
  | here {F : Fr} (h : Q .normal F) : BlockK id Q (.exit id) F
  | there {F : Fr} {k : Nat} (hk : Nat.beq k id = false) (h : Q (.exit k) F) : BlockK id Q (.exit k) F

theorem cw_block {id : Nat} {b : Code} (h : CW E hp b F (BlockK id Q)) : CW E hp (.block id b) F Q := by
  obtain ⟨e, F1, h1, h2⟩ := h.out
  cases h2 with
  | normal h2 => exact cw_of rfl ⟨.normal, F1, by simp only [execStep, h1], h2⟩
  | ret h2 => exact cw_of rfl ⟨.ret, F1, by simp only [execStep, h1], h2⟩
  | here h2 => exact cw_of rfl ⟨.normal, F1, by simp only [execStep, h1, Nat.beq_refl, cond_true], h2⟩
  | there hk h2 => exact cw_of rfl ⟨.exit _, F1, by simp only [execStep, h1, hk, cond_false], h2⟩

theorem cw_cond {x : Operand} {a b : Code} {t : Bool} (hx : evalO E F.regs x = some (.bool t)) (h1 : t = true → CW E hp a F Q) (h2 : t = false → CW E hp b F Q) : CW E hp (.cond x a b) F Q := by
  cases t with
  | true =>
    obtain ⟨e, F1, h3, h4⟩ := (h1 rfl).out
    exact cw_of rfl ⟨e, F1, by simp only [execStep, hx, cond_true, h3], h4⟩
  | false =>
    obtain ⟨e, F1, h3, h4⟩ := (h2 rfl).out
    exact cw_of rfl ⟨e, F1, by simp only [execStep, hx, cond_false, h3], h4⟩

/-- One round of a loop, and what comes behind. -/
theorem cw_loop {b : Code} (h : CW E hp b F (SeqK E hp (.loop b) Q)) : CW E hp (.loop b) F Q := by
  obtain ⟨e, F1, h1, h2⟩ := h.out
  cases h2 with
  | normal h2 =>
    obtain ⟨e2, F2, h3, h4⟩ := h2.out
    exact cw_of rfl ⟨e2, F2, by simp only [execStep, h1, h3], h4⟩
  | ret h2 => exact cw_of rfl ⟨.ret, F1, by simp only [execStep, h1], h2⟩
  | exit h2 => exact cw_of rfl ⟨.exit _, F1, by simp only [execStep, h1], h2⟩

theorem cw_mono {c : Code} {Q' : Ex → Fr → Prop} (h : CW E hp c F Q) (hq : ∀ e F', Q e F' → Q' e F') : CW E hp c F Q' :=
  let ⟨e, F', h1, h2⟩ := h.out; ⟨⟨e, F', h1, hq _ _ h2⟩⟩

/-- What a function's end gives. -/
structure RetK (E : Env) (fn : Func) (v : PV) (e : Ex) (F : Fr) : Prop where
  out : (∀ k, e ≠ .exit k) ∧ F.defers = [] ∧ ∃ u, resultsOf E fn F.regs F.S = some u ∧ fz 0 F.S.bx 12 u = some v

/-- A call that is handed nothing of one's own. -/
theorem call_pure {f : Nat} {fn : Func} {c : Code} {args args' : List PV} {v : PV} (hprim : E.prim f = none) (hraw : E.raw f = false) (hfn : E.fn f = some fn) (hb : fn.body = some c) (hcl : mapO clean args = some args')
    (hlen : args'.length ≤ fn.ntmps ∧ args'.length ≤ 4000) (h : CW E (E.heapy f) c ⟨fn.ntmps, numb 0 args', [], St.empty⟩ (RetK E fn v)) : ∀ S, callW E f args S = some (v, S) := by
  intro S
  obtain ⟨e, F, h1, h2⟩ := h.out
  obtain ⟨h2, h3, u, h4, h5⟩ := h2.out
  rw [callW_eq]
  unfold callStep
  simp only [hraw, cond_false, hcl]
  have hent : enterStep E (codeW E) f args' St.empty = some (u, F.S) := by
    unfold enterStep
    simp only [hprim, hfn, hb, cond_eq_ite, Nat.ble_eq, Bool.and_eq_true, if_pos hlen, h1]
    cases e with
    | exit k => exact absurd rfl (h2 k)
    | normal => simp only [h3, runDefers, h4]
    | ret => simp only [h3, runDefers, h4]
  rw [hent]
  simp only [h5]

end
end Go.Am

/- The machine's steps as rules: operations one by one. No condition. -/
namespace Go.Am

section
variable {E : Env} {hp : Bool} {F : Fr} {K : Fr → Prop} {l : List Rop} {d : Nat} {n : Nat} {regs : Regs} {D : List (PV × List PV)} {S : St}

theorem ow_nil (h : K F) : OW E hp [] F K := ⟨h⟩

/-- An operation that gives a value, the state as it was or not. -/
theorem ow_some {op : Op} {v : PV} {S' : St} (hd : d < n ∧ d < 4000) (hn : noDefer op) (hv : opRun E (callW E) hp none (evalO E regs) S ⟨some d, op, 0, "", #[], none⟩ = some (v, S')) (h : OW E hp l ⟨n, setR d v regs, D, S'⟩ K) :
    OW E hp (⟨some d, op, none⟩ :: l) ⟨n, regs, D, S⟩ K := ⟨⟨hd, hn, v, S', hv, h.out⟩⟩

theorem ow_none {op : Op} {v : PV} {S' : St} (hn : noDefer op) (hv : opRun E (callW E) hp none (evalO E regs) S ⟨none, op, 0, "", #[], none⟩ = some (v, S')) (h : OW E hp l ⟨n, regs, D, S'⟩ K) :
    OW E hp (⟨none, op, none⟩ :: l) ⟨n, regs, D, S⟩ K := ⟨⟨trivial, hn, v, S', hv, h.out⟩⟩

theorem ow_guard {op : Op} {t : Nat} {want b : Bool} (hd : d < n ∧ d < 4000) (hn : noDefer op) (ht : t < 4000) (hb : getR t regs = .bool b)
    (h1 : b = want → OW E hp (⟨some d, op, none⟩ :: l) ⟨n, regs, D, S⟩ K) (h2 : b ≠ want → OW E hp l ⟨n, setR d undef regs, D, S⟩ K) :
    OW E hp (⟨some d, op, some (t, want)⟩ :: l) ⟨n, regs, D, S⟩ K := ⟨⟨hd, hn, ht, b, hb, fun e => (h1 e).out.2.2, fun e => (h2 e).out⟩⟩


end
end Go.Am

/- Frames in which the registers read the same come to the same. No condition. -/
namespace Go.Am

section
variable {E : Env} {hp : Bool}

theorem opsRun_feq {cf : CallF} {ops : Array Oper} : ∀ {l : List Oper} {F F' G : Fr}, opsRun E cf hp ops l F = some F' → FEq F G → ∃ G', opsRun E cf hp ops l G = some G' ∧ FEq F' G'
  | [], F, F', G, h, e => by
    simp [opsRun] at h; subst h
    exact ⟨G, rfl, e⟩
  | o :: l, F, F', G, h, e => by
    unfold opsRun at h ⊢
    split at h
    · rename_i F1 h1
      obtain ⟨G1, q1, e1, _⟩ := oper_feq h1 e
      obtain ⟨G2, q2, e2⟩ := opsRun_feq h e1
      exact ⟨G2, by rw [q1]; exact q2, e2⟩
    · cases h

theorem regionRun_feq {cf : CallF} {ops : Array Oper} {draw : Bool} {F F' G : Fr} (h : regionRun E cf hp ops draw F = some F') (e : FEq F G) : ∃ G', regionRun E cf hp ops draw G = some G' ∧ FEq F' G' := by
  unfold regionRun at h ⊢
  cases draw with
  | false => exact opsRun_feq h e
  | true =>
    simp only [cond_true] at h ⊢
    split at h
    · rename_i F1 es h1
      rw [e.S] at h1 h
      obtain ⟨G1, q1, e1⟩ := opsDraw_feq (G := ⟨G.n, G.regs, G.defers, holes (countAllocs hp ops.toList) G.S⟩) h1 ⟨e.n, rfl, e.d, e.r⟩
      rw [q1]
      simp only [cond_eq_ite] at h ⊢
      split at h
      · rename_i ho
        simp at h; subst h
        exact ⟨G1, by simp only [ho, if_true], e1⟩
      · cases h
    · cases h

theorem evalO_feq {F G : Fr} (e : FEq F G) (x : Operand) : evalO E G.regs x = evalO E F.regs x := by
  cases x <;> simp only [evalO]
  rw [e.r]

theorem code_feq : ∀ (n : Nat) (hp : Bool) (c : Code) (F : Fr) (ex : Ex) (F' G : Fr), (runs E n).code hp c F = some (ex, F') → FEq F G → ∃ G', (runs E n).code hp c G = some (ex, G') ∧ FEq F' G'
  | 0, _, _, _, _, _, _, h, _ => by cases h
  | n + 1, hp, c, F, ex, F', G, h, e => by
    have ih := code_feq n
    rw [runs_succ_code] at h ⊢
    unfold execStep at h ⊢
    cases c <;> dsimp only at h ⊢ <;> try (cases h; done)
    case skip => simp at h; obtain ⟨rfl, rfl⟩ := h; exact ⟨G, rfl, e⟩
    case label => simp at h; obtain ⟨rfl, rfl⟩ := h; exact ⟨G, rfl, e⟩
    case exit => simp at h; obtain ⟨rfl, rfl⟩ := h; exact ⟨G, rfl, e⟩
    case ret => simp at h; obtain ⟨rfl, rfl⟩ := h; exact ⟨G, rfl, e⟩
    case region id ops draw =>
      split at h
      · rename_i F1 h1
        simp at h; obtain ⟨rfl, rfl⟩ := h
        obtain ⟨G1, q1, e1⟩ := regionRun_feq h1 e
        exact ⟨G1, by rw [q1], e1⟩
      · cases h
    case seq a b =>
      cases ha : (runs E n).code hp a F with
      | none => rw [ha] at h; cases h
      | some r =>
        obtain ⟨e1, F1⟩ := r
        rw [ha] at h
        obtain ⟨G1, q1, f1⟩ := ih hp a F e1 F1 G ha e
        rw [q1]
        cases e1 with
        | normal => exact ih hp b F1 ex F' G1 h f1
        | ret => simp at h; obtain ⟨rfl, rfl⟩ := h; exact ⟨G1, rfl, f1⟩
        | exit k => simp at h; obtain ⟨rfl, rfl⟩ := h; exact ⟨G1, rfl, f1⟩
    case cond x a b =>
      rw [evalO_feq e]
      split at h
      · rename_i t ht
        cases t
        · exact ih hp b F ex F' G h e
        · exact ih hp a F ex F' G h e
      · cases h
    case block id b =>
      cases ha : (runs E n).code hp b F with
      | none => rw [ha] at h; cases h
      | some r =>
        obtain ⟨e1, F1⟩ := r
        rw [ha] at h
        obtain ⟨G1, q1, f1⟩ := ih hp b F e1 F1 G ha e
        rw [q1]
        cases e1 with
        | normal => simp at h; obtain ⟨rfl, rfl⟩ := h; exact ⟨G1, rfl, f1⟩
        | ret => simp at h; obtain ⟨rfl, rfl⟩ := h; exact ⟨G1, rfl, f1⟩
        | exit k =>
          dsimp only at h ⊢
          cases hk : Nat.beq k id <;> rw [hk] at h <;> simp at h <;> obtain ⟨rfl, rfl⟩ := h
          · exact ⟨G1, rfl, f1⟩
          · exact ⟨G1, rfl, f1⟩
    case loop b =>
      cases ha : (runs E n).code hp b F with
      | none => rw [ha] at h; cases h
      | some r =>
        obtain ⟨e1, F1⟩ := r
        rw [ha] at h
        obtain ⟨G1, q1, f1⟩ := ih hp b F e1 F1 G ha e
        rw [q1]
        cases e1 with
        | normal => exact ih hp (.loop b) F1 ex F' G1 h f1
        | ret => simp at h; obtain ⟨rfl, rfl⟩ := h; exact ⟨G1, rfl, f1⟩
        | exit k => simp at h; obtain ⟨rfl, rfl⟩ := h; exact ⟨G1, rfl, f1⟩

/-- It has to do with what registers read alone. -/
def Resp (Q : Ex → Fr → Prop) : Prop := ∀ e F G, FEq F G → Q e F → Q e G

theorem cw_feq {c : Code} {F G : Fr} {Q : Ex → Fr → Prop} (hq : Resp Q) (e : FEq F G) (h : CW E hp c F Q) : CW E hp c G Q := by
  obtain ⟨ex, F', h1, h2⟩ := h.out
  obtain ⟨n, hn⟩ := codeW_iff.1 h1
  obtain ⟨G', q1, f1⟩ := code_feq n hp c F ex F' G hn e
  exact ⟨⟨ex, G', codeW_iff.2 ⟨n, q1⟩, hq _ _ _ f1 h2⟩⟩

theorem resp_seq {b : Code} {Q : Ex → Fr → Prop} (hq : Resp Q) : Resp (SeqK E hp b Q) := by
  intro ex F G e h
  cases h with
  | normal h => exact .normal (cw_feq hq e h)
  | ret h => exact .ret (hq _ _ _ e h)
  | exit h => exact .exit (hq _ _ _ e h)

theorem resp_block {id : Nat} {Q : Ex → Fr → Prop} (hq : Resp Q) : Resp (BlockK id Q) := by
  intro ex F G e h
  cases h with
  | normal h => exact .normal (hq _ _ _ e h)
  | ret h => exact .ret (hq _ _ _ e h)
  | here h => exact .here (hq _ _ _ e h)
  | there hk h => exact .there hk (hq _ _ _ e h)

theorem resp_ret {fn : Func} {v : PV} : Resp (RetK E fn v) := by
  intro ex F G e h
  obtain ⟨h1, h2, u, h3, h4⟩ := h.out
  have hr : resultsOf E fn G.regs G.S = resultsOf E fn F.regs F.S := by
    have h0 : ∀ r, resultOf E G.regs G.S r = resultOf E F.regs F.S r := by
      intro r
      cases r <;> simp only [resultOf]
      · rw [e.r]
      · rw [e.r, e.S]
    have h1 : ∀ l, resultList E G.regs G.S l = resultList E F.regs F.S l := by
      intro l
      induction l with
      | nil => rfl
      | cons r l ih => simp only [resultList, h0, ih]
    simp only [resultsOf, h1]
  exact ⟨⟨h1, e.d ▸ h2, u, by rw [hr]; exact h3, by rw [← e.S]; exact h4⟩⟩

/-- Some registers are told, the others are as they may be. -/
def told : List (Nat × PV) → (Nat → PV) → Nat → PV
  | [], g, t => g t
  | (k, v) :: r, g, t => bif Nat.beq t k then v else told r g t

def TellsAll (regs : Regs) : List (Nat × PV) → Prop
  | [] => True
  | (k, v) :: r => getR k regs = v ∧ TellsAll regs r

theorem told_eq {regs : Regs} : ∀ {l : List (Nat × PV)}, TellsAll regs l → ∀ t, told l (fun t => getR t regs) t = getR t regs
  | [], _, t => rfl
  | (k, v) :: r, h, t => by
    simp only [told]
    cases hk : Nat.beq t k with
    | true => rw [cond_true, ← h.1, nat_beq.1 hk]
    | false => rw [cond_false]; exact told_eq h.2 t

/-- Where a loop begins: what is told of the registers is all that is wanted. -/
theorem cw_told {c : Code} {n : Nat} {regs : Regs} {D : List (PV × List PV)} {S : St} {Q : Ex → Fr → Prop} (l : List (Nat × PV)) (hl : TellsAll regs l) (hq : Resp Q)
    (h : ∀ g, CW E hp c ⟨n, .f (told l g), D, S⟩ Q) : CW E hp c ⟨n, regs, D, S⟩ Q :=
  cw_feq (F := ⟨n, .f (told l fun t => getR t regs), D, S⟩) hq ⟨rfl, rfl, rfl, fun t => told_eq hl t⟩ (h _)

/-- What a round of a loop has to come to. -/
inductive LoopK {α : Type} (n : Nat) (D : List (PV × List PV)) (I : α → Prop) (l : α → List (Nat × PV)) (T : α → St) (μ : α → Nat) (a : α) (Q : Ex → Fr → Prop) : Ex → Fr → Prop
  | normal {F : Fr} (h : ∃ b, I b ∧ μ b < μ a ∧ F.n = n ∧ F.defers = D ∧ F.S = T b ∧ TellsAll F.regs (l b)) : LoopK n D I l T μ a Q .normal F
  | ret {F : Fr} (h : Q .ret F) : LoopK n D I l T μ a Q .ret F
  | exit {F : Fr} {k : Nat} (h : Q (.exit k) F) : LoopK n D I l T μ a Q (.exit k) F

/-- A loop: what is told of the registers and the state, by a thing that grows less. -/
theorem cw_loop_told {α : Type} {c : Code} {n : Nat} {regs : Regs} {D : List (PV × List PV)} {S : St} {Q : Ex → Fr → Prop} (I : α → Prop) (l : α → List (Nat × PV)) (T : α → St) (μ : α → Nat) (a : α)
    (h0 : I a) (hl : TellsAll regs (l a)) (hS : S = T a) (hq : Resp Q)
    (h : ∀ a g, I a → CW E hp c ⟨n, .f (told (l a) g), D, T a⟩ (LoopK n D I l T μ a Q)) : CW E hp (.loop c) ⟨n, regs, D, S⟩ Q := by
  have main : ∀ m, ∀ a regs, μ a ≤ m → I a → TellsAll regs (l a) → CW E hp (.loop c) ⟨n, regs, D, T a⟩ Q := by
    intro m
    induction m with
    | zero =>
      intro a regs hm hI hl
      refine cw_told (l a) hl hq fun g => cw_loop (cw_mono (h a g hI) fun e F he => ?_)
      cases he with
      | normal he => obtain ⟨b, _, hlt, _⟩ := he; omega
      | ret he => exact .ret he
      | exit he => exact .exit he
    | succ m ih =>
      intro a regs hm hI hl
      refine cw_told (l a) hl hq fun g => cw_loop (cw_mono (h a g hI) fun e F he => ?_)
      cases he with
      | ret he => exact .ret he
      | exit he => exact .exit he
      | normal he =>
        obtain ⟨b, hb, hlt, h1, h2, h3, h4⟩ := he
        obtain ⟨n', r', D', S'⟩ := F
        simp only at h1 h2 h3 h4
        subst h1; subst h2; subst h3
        exact .normal (ih b r' (by omega) hb h4)
  subst hS
  exact main _ a regs (Nat.le_refl _) h0 hl

theorem resp_loop {α : Type} {n : Nat} {D : List (PV × List PV)} {I : α → Prop} {l : α → List (Nat × PV)} {T : α → St} {μ : α → Nat} {a : α} {Q : Ex → Fr → Prop} (hq : Resp Q) : Resp (LoopK n D I l T μ a Q) := by
  intro ex F G e h
  have tells : ∀ l, TellsAll F.regs l → TellsAll G.regs l := by
    intro l
    induction l with
    | nil => exact fun _ => trivial
    | cons x l ih => obtain ⟨k, v⟩ := x; exact fun h => ⟨by rw [← e.r]; exact h.1, ih h.2⟩
  cases h with
  | normal h =>
    obtain ⟨b, h1, h2, h3, h4, h5, h6⟩ := h
    exact .normal ⟨b, h1, h2, e.n ▸ h3, e.d ▸ h4, e.S ▸ h5, tells _ h6⟩
  | ret h => exact .ret (hq _ _ _ e h)
  | exit h => exact .exit (hq _ _ _ e h)

end
end Go.Am

/- The machine's steps as rules: one rule a step. No condition. -/
namespace Go.Am

/-- A value, brought to its form. -/
def forceO : Option (PV × St) → Option (PV × St)
  | none => none
  | some (v, S) => match v with
    | .int k n => some (.int k n, S)
    | .bool b => some (.bool b, S)
    | .str l => some (.str l, S)
    | .nilptr => some (.nilptr, S)
    | .nilslice => some (.nilslice, S)
    | .niliface => some (.niliface, S)
    | .nilfunc => some (.nilfunc, S)
    | .slice k n c => some (.slice k n c, S)
    | .agg c => some (.agg c, S)
    | .tup c => some (.tup c, S)
    | .iface t u => some (.iface t u, S)
    | .func f a b => some (.func f a b, S)
    | .ptr i o => some (.ptr i o, S)
    | .ms i o n w => some (.ms i o n w, S)
    | .imm o c => some (.imm o c, S)

theorem forceO_eq {r x : Option (PV × St)} (h : forceO r = x) : r = x := by
  subst h
  cases r with
  | none => rfl
  | some y => obtain ⟨v, S⟩ := y; cases v <;> rfl

section
variable {E : Env} {hp : Bool} {F : Fr} {K : Fr → Prop} {l : List Rop} {d : Nat} {n : Nat} {regs : Regs} {D : List (PV × List PV)} {S : St} {Q : Ex → Fr → Prop}

/-- An operation, its value brought to its form. -/
theorem ow_f {op : Op} {v : PV} {S' : St} (hd : d < n ∧ d < 4000) (hn : noDefer op) (hv : forceO (opRun E (callW E) hp none (evalO E regs) S ⟨some d, op, 0, "", #[], none⟩) = some (v, S')) (h : OW E hp l ⟨n, setR d v regs, D, S'⟩ K) :
    OW E hp (⟨some d, op, none⟩ :: l) ⟨n, regs, D, S⟩ K := ow_some hd hn (forceO_eq hv) h

theorem ow_fn {op : Op} {v : PV} {S' : St} (hn : noDefer op) (hv : forceO (opRun E (callW E) hp none (evalO E regs) S ⟨none, op, 0, "", #[], none⟩) = some (v, S')) (h : OW E hp l ⟨n, regs, D, S'⟩ K) :
    OW E hp (⟨none, op, none⟩ :: l) ⟨n, regs, D, S⟩ K := ow_none hn (forceO_eq hv) h

theorem ow_guard_yes {op : Op} {t : Nat} {want : Bool} (hd : d < n ∧ d < 4000) (hn : noDefer op) (ht : t < 4000) (hb : getR t regs = .bool want) (h1 : OW E hp (⟨some d, op, none⟩ :: l) ⟨n, regs, D, S⟩ K) :
    OW E hp (⟨some d, op, some (t, want)⟩ :: l) ⟨n, regs, D, S⟩ K := ow_guard hd hn ht hb (fun _ => h1) (fun h => absurd rfl h)

theorem ow_guard_no {op : Op} {t : Nat} {want : Bool} (hd : d < n ∧ d < 4000) (hn : noDefer op) (ht : t < 4000) (hb : getR t regs = .bool (!want)) (h1 : OW E hp l ⟨n, setR d undef regs, D, S⟩ K) :
    OW E hp (⟨some d, op, some (t, want)⟩ :: l) ⟨n, regs, D, S⟩ K := ow_guard hd hn ht hb (fun h => by cases want <;> cases h) (fun _ => h1)

theorem cw_true {x : Operand} {a b : Code} (hx : evalO E F.regs x = some (.bool true)) (h : CW E hp a F Q) : CW E hp (.cond x a b) F Q := cw_cond hx (fun _ => h) (fun h => by cases h)
theorem cw_false {x : Operand} {a b : Code} (hx : evalO E F.regs x = some (.bool false)) (h : CW E hp b F Q) : CW E hp (.cond x a b) F Q := cw_cond hx (fun h => by cases h) (fun _ => h)

theorem k_loop_n {α : Type} {I : α → Prop} {lt : α → List (Nat × PV)} {T : α → St} {μ : α → Nat} {a : α} (b : α) (h1 : I b) (h2 : μ b < μ a) (h3 : S = T b) (h4 : TellsAll regs (lt b)) :
    LoopK n D I lt T μ a Q .normal ⟨n, regs, D, S⟩ := .normal ⟨b, h1, h2, rfl, rfl, h3, h4⟩

theorem k_ret {fn : Func} {u v : PV} (h1 : resultsOf E fn regs S = some u) (h2 : fz 0 S.bx 12 u = some v) : RetK E fn v .ret ⟨n, regs, [], S⟩ :=
  ⟨⟨fun k h => (by cases h), rfl, u, h1, h2⟩⟩
theorem k_ret_n {fn : Func} {u v : PV} (h1 : resultsOf E fn regs S = some u) (h2 : fz 0 S.bx 12 u = some v) : RetK E fn v .normal ⟨n, regs, [], S⟩ :=
  ⟨⟨fun k h => (by cases h), rfl, u, h1, h2⟩⟩

/-- A call, as is known. -/
theorem ow_call {c : Call} {g : Nat} {first cap args : List PV} {fv : Operand} {v : PV} {S' : St} (hd : d < n ∧ d < 4000) (hc : c.callee = .value fv) (ha : evArgs (evalO E regs) c.args.toList = some args) (hf : evalO E regs fv = some (.func g first cap))
    (hk : callW E g (first ++ args ++ cap) S = some (v, S')) (h : OW E hp l ⟨n, setR d v regs, D, S'⟩ K) :
    OW E hp (⟨some d, .call c, none⟩ :: l) ⟨n, regs, D, S⟩ K :=
  ow_some hd trivial (by unfold opRun; simp only [ha, hc, hf]; exact hk) h

end
end Go.Am

/- Steps that lean on a fact. No condition. -/
namespace Go.Am

theorem blt_t {a b : Nat} (h : a < b) : Nat.blt a b = true := by rw [Nat.blt_eq]; exact h
theorem ble_t {a b : Nat} (h : a ≤ b) : Nat.ble a b = true := by rw [Nat.ble_eq]; exact h

theorem fwrap_i64 {r : Int} (h1 : -9223372036854775808 ≤ r) (h2 : r < 9223372036854775808) : fwrap .i64 r = r := by
  cases r with
  | ofNat m =>
    have hm : m < 9223372036854775808 := by
      have : (m : Int) < 9223372036854775808 := h2
      omega
    show (bif Nat.blt m 9223372036854775808 then Int.ofNat m else _) = _
    rw [blt_t hm]; rfl
  | negSucc m =>
    show IntKind.i64.wrap (Int.negSucc m) = _
    rw [IntKind.wrap_i64]
    have e : Int.negSucc m = -((m : Int) + 1) := rfl
    rw [e] at h1 ⊢
    omega

/-- What is read of a row that never changes. -/
def loadL (ti : TI) (off : Nat) (c : List PV) : Option PV := bif Nat.ble (off + ti.size) c.length then ofAgg ti.agg ((c.drop off).take ti.size) else none

theorem loadL_one {ti : TI} {k : Nat} {c : List PV} {v : PV} (h1 : ti.size = 1) (h2 : ti.agg = false) (h : c[k]? = some v) : loadL ti k c = some v := by
  have hk : k < c.length := by
    rcases Nat.lt_or_ge k c.length with h' | h'
    · exact h'
    · simp [h'] at h
  unfold loadL
  rw [h1, h2, ble_t (by omega : k + 1 ≤ c.length), cond_true]
  have : (c.drop k).take 1 = [v] := by
    rw [List.getElem?_eq_getElem hk] at h
    cases h
    rw [List.drop_eq_getElem_cons hk]; rfl
  rw [this]; rfl

theorem flat_part {α : Type} {f : α → List PV} {s : Nat} (hs : ∀ x, (f x).length = s) : ∀ {xs : List α} {k : Nat} {x : α}, xs[k]? = some x → (((xs.map f).flatten).drop (k * s)).take s = f x ∧ k * s + s ≤ ((xs.map f).flatten).length
  | [], k, x, h => by simp at h
  | y :: xs, 0, x, h => by
    simp at h; subst h
    simp [List.take_append, hs]
  | y :: xs, k + 1, x, h => by
    obtain ⟨h1, h2⟩ := flat_part hs (xs := xs) (k := k) (x := x) (by simpa using h)
    simp only [List.map_cons, List.flatten_cons, List.length_append, hs]
    have e : (k + 1) * s = s + k * s := by rw [Nat.succ_mul]; omega
    refine ⟨?_, by omega⟩
    rw [e, List.drop_append, hs]
    have e2 : s + k * s - s = k * s := by omega
    rw [List.drop_eq_nil_of_le (by rw [hs]; omega), e2, List.nil_append, h1]

theorem loadL_flat {α : Type} {ti : TI} {f : α → List PV} {xs : List α} {k : Nat} {x : α} (hs : ∀ x, (f x).length = ti.size) (h2 : ti.agg = true) (h : xs[k]? = some x) : loadL ti (k * ti.size) ((xs.map f).flatten) = some (.agg (f x)) := by
  obtain ⟨h3, h4⟩ := flat_part hs h
  unfold loadL
  rw [h2, ble_t h4, cond_true, h3]; rfl

section
variable {E : Env} {hp : Bool} {F : Fr} {K : Fr → Prop} {l : List Rop} {d : Nat} {n : Nat} {regs : Regs} {D : List (PV × List PV)} {S : St} {Q : Ex → Fr → Prop}

theorem ow_indexAddr {t e sz k m : Nat} {x i : Operand} {ik : IntKind} {kk : SK} {c : List PV} {ti : TI} (hd : d < n ∧ d < 4000) (ht : E.tt t = some ti) (hk : ti.kind = .slice e) (hs : sizeE E e = some sz) (hx : evalO E regs x = some (.slice kk m c))
    (hi : evalO E regs i = some (.int ik (.ofNat k))) (hlt : k < m) (h : OW E hp l ⟨n, setR d (.imm (k * sz) c) regs, D, S⟩ K) : OW E hp (⟨some d, .indexAddr t x i, none⟩ :: l) ⟨n, regs, D, S⟩ K := by
  refine ow_some (v := .imm (k * sz) c) (S' := S) hd trivial ?_ h
  unfold opRun indexAddrRun
  simp only [hx, hi, asNat, ht, hk, blt_t hlt, cond_true, hs, withS]

theorem ow_load_imm {t off : Nat} {a : Operand} {c : List PV} {v : PV} {ti : TI} (hd : d < n ∧ d < 4000) (ht : E.tt t = some ti) (ha : evalO E regs a = some (.imm off c)) (hc : loadL ti off c = some v)
    (h : OW E hp l ⟨n, setR d v regs, D, S⟩ K) : OW E hp (⟨some d, .load t a, none⟩ :: l) ⟨n, regs, D, S⟩ K := by
  refine ow_some (v := v) (S' := S) hd trivial ?_ h
  unfold opRun loadRun
  unfold loadL at hc
  simp only [ha, ht, hc, withS]

theorem ow_int {op : BinOp} {t u : Nat} {x y : Operand} {k k' : IntKind} {a b : Int} {v : PV} (hd : d < n ∧ d < 4000) (hx : evalO E regs x = some (.int k a)) (hy : evalO E regs y = some (.int k' b))
    (hv : binRun E (isC x || isC y) op t (.int k a) (.int k' b) = some v) (h : OW E hp l ⟨n, setR d v regs, D, S⟩ K) : OW E hp (⟨some d, .binOp op t x y u, none⟩ :: l) ⟨n, regs, D, S⟩ K := by
  refine ow_some (v := v) (S' := S) hd trivial ?_ h
  unfold opRun
  simp only [hx, hy, hv, withS]

theorem bin_add {E : Env} {c : Bool} {t : Nat} {a b r : Int} (h1 : -9223372036854775808 ≤ r) (h2 : r < 9223372036854775808) (h : a + b = r) : binRun E c .add t (.int .i64 a) (.int .i64 b) = some (.int .i64 r) := by
  subst h
  show some (PV.int .i64 (fwrap .i64 (a + b))) = _
  rw [fwrap_i64 h1 h2]

theorem bin_sub {E : Env} {c : Bool} {t : Nat} {a b r : Int} (h1 : -9223372036854775808 ≤ r) (h2 : r < 9223372036854775808) (h : a - b = r) : binRun E c .sub t (.int .i64 a) (.int .i64 b) = some (.int .i64 r) := by
  subst h
  show some (PV.int .i64 (fwrap .i64 (a - b))) = _
  rw [fwrap_i64 h1 h2]

theorem fwrap_nat {m : Nat} (h : m < 9223372036854775808) : fwrap .i64 (.ofNat m) = .ofNat m := by
  show (bif Nat.blt m 9223372036854775808 then Int.ofNat m else _) = _
  rw [blt_t h]; rfl

theorem binN_add {E : Env} {c : Bool} {t a b : Nat} (h : a + b < 9223372036854775808) : binRun E c .add t (.int .i64 (.ofNat a)) (.int .i64 (.ofNat b)) = some (.int .i64 (.ofNat (a + b))) := by
  show some (PV.int .i64 (fwrap .i64 (.ofNat (a + b)))) = _
  rw [fwrap_nat h]

theorem binN_sub {E : Env} {c : Bool} {t a b : Nat} (h : a < 9223372036854775808) (hb : b ≤ a) : binRun E c .sub t (.int .i64 (.ofNat a)) (.int .i64 (.ofNat b)) = some (.int .i64 (.ofNat (a - b))) := by
  have e : (Int.ofNat a - Int.ofNat b : Int) = Int.ofNat (a - b) := by
    show (a : Int) - (b : Int) = ((a - b : Nat) : Int); omega
  show some (PV.int .i64 (fwrap .i64 (Int.ofNat a - Int.ofNat b))) = _
  rw [e, fwrap_nat (by omega)]

theorem ow_addN {t u a b : Nat} {x y : Operand} (hd : d < n ∧ d < 4000) (hx : evalO E regs x = some (.int .i64 (.ofNat a))) (hy : evalO E regs y = some (.int .i64 (.ofNat b))) (hab : a + b < 9223372036854775808)
    (h : OW E hp l ⟨n, setR d (.int .i64 (.ofNat (a + b))) regs, D, S⟩ K) : OW E hp (⟨some d, .binOp .add t x y u, none⟩ :: l) ⟨n, regs, D, S⟩ K := ow_int hd hx hy (binN_add hab) h

theorem ow_addC {t u a b : Nat} {x y : Operand} (hd : d < n ∧ d < 4000) (hx : evalO E regs x = some (.int .i64 (.ofNat a))) (hy : evalO E regs y = some (.int .i64 (.ofNat b))) (hb : Nat.ble b 4096 = true) (ha : a < 9223372036854771712)
    (h : OW E hp l ⟨n, setR d (.int .i64 (.ofNat (a + b))) regs, D, S⟩ K) : OW E hp (⟨some d, .binOp .add t x y u, none⟩ :: l) ⟨n, regs, D, S⟩ K :=
  ow_addN hd hx hy (by have := Nat.le_of_ble_eq_true hb; omega) h

theorem ow_subN {t u a b : Nat} {x y : Operand} (hd : d < n ∧ d < 4000) (hx : evalO E regs x = some (.int .i64 (.ofNat a))) (hy : evalO E regs y = some (.int .i64 (.ofNat b))) (ha : a < 9223372036854775808) (hab : b ≤ a)
    (h : OW E hp l ⟨n, setR d (.int .i64 (.ofNat (a - b))) regs, D, S⟩ K) : OW E hp (⟨some d, .binOp .sub t x y u, none⟩ :: l) ⟨n, regs, D, S⟩ K := ow_int hd hx hy (binN_sub ha hab) h

theorem lt_of_dec {a b : Nat} (h : decide (Int.ofNat a < Int.ofNat b) = true) : a < b := by
  have := of_decide_eq_true h
  exact Int.ofNat_lt.1 this

theorem not_lt_of_dec {a b : Nat} (h : decide (Int.ofNat a < Int.ofNat b) = false) : b ≤ a := by
  have := of_decide_eq_false h
  have h2 : ¬ (a < b) := fun h' => this (Int.ofNat_lt.2 h')
  omega

end
end Go.Am
