/- Memory: what is new, what is written, what is let go. No condition. -/
import Derived.Test.YtbjfngebahogpaaGreatDoorAmQ
import Derived.Lib.AppendStr
import Derived.Laws.RangeAny
namespace Go.Am

section
variable {P : Program} {C : Conf} {S : St} {w0 : Base} {w : World} {N : Nat → Prop}

theorem cell_heap {w w' : World} {a : Addr} (h : w'.heap[a.block]? = w.heap[a.block]?) : w'.cell? a = w.cell? a := by simp [World.cell?, h]

theorem cell_lt {w : World} {b k : Nat} {v : Value} (h : w.cell? ⟨b, k, none⟩ = some v) : b < w.heap.size := by
  rcases Nat.lt_or_ge b w.heap.size with h' | h'
  · exact h'
  · simp [World.cell?, h'] at h

theorem heap_lt {w : World} {b : Nat} {o : Obj} (h : w.heap[b]? = some o) : b < w.heap.size := by
  rcases Nat.lt_or_ge b w.heap.size with h' | h'
  · exact h'
  · simp [h'] at h

/-- A world whose tracked blocks are as they were. -/
theorem WRel.same (h : WRel C S w0 N w) {w' : World} (hs : w.heap.size ≤ w'.heap.size) (hh : ∀ b, b < w.heap.size → w'.heap[b]? = w.heap[b]?) (hst : Still w w' := by exact ⟨rfl, rfl⟩) : WRel C S w0 N w' where
  sg b k v hv := (cell_heap (hh b (cell_lt (h.sg b k v hv)))).trans (h.sg b k v hv)
  cells i t l hb := let ⟨vs, h1, h2, h3⟩ := h.cells i t l hb; ⟨vs, (hh _ (heap_lt h1)).trans h1, h2, h3⟩
  ro := h.ro
  iter i l pos hb := let ⟨s, h1, h2⟩ := h.iter i l pos hb; ⟨s, (hh _ (heap_lt h1)).trans h1, h2⟩
  inj := h.inj
  sep := h.sep
  ids g len e hg := let ⟨b, n, cap, sz, cur, h1, h2, h3⟩ := h.ids g len e hg; ⟨b, n, cap, sz, cur, h1, (hh _ (heap_lt h2)).trans h2, h3⟩
  idinj := h.idinj
  size := Nat.le_trans h.size hs
  keep b hb hN := (hh b (Nat.lt_of_lt_of_le hb h.size)).trans (h.keep b hb hN)
  ownN := h.ownN
  idN := h.idN
  known := h.known
  hole := h.hole
  still := h.still.trans hst

/-- A block of which nothing is known. -/
structure Free (C : Conf) (S : St) (w0 : Base) (N : Nat → Prop) (g : Nat) : Prop where
  base : N g ∨ w0.heap.size ≤ g
  box : ∀ i b, S.bx[i]? = some b → b.own = true → C.be i ≠ g
  sg : ∀ k, C.sg g k = none
  id : ∀ γ x b o n c, S.fr[γ]? = some (some x) → C.ep γ = .slice (some ⟨b, o, none⟩) n c → b ≠ g

/-- A world that parts from another one in a block alone, of which nothing is known. -/
theorem WRel.other (h : WRel C S w0 N w) {w' : World} {g : Nat} (hf : Free C S w0 N g) (hs : w.heap.size ≤ w'.heap.size) (hh : ∀ b, b ≠ g → b < w.heap.size → w'.heap[b]? = w.heap[b]?) (hg0 : g < w0.heap.size → N g) (hst : Still w w' := by exact ⟨rfl, rfl⟩) : WRel C S w0 N w' where
  sg b k v hv := (cell_heap (hh b (fun e => by subst e; rw [hf.sg] at hv; cases hv) (cell_lt (h.sg b k v hv)))).trans (h.sg b k v hv)
  cells i t l hb := let ⟨vs, h1, h2, h3⟩ := h.cells i t l hb; ⟨vs, (hh _ (hf.box i _ hb rfl) (heap_lt h1)).trans h1, h2, h3⟩
  ro := h.ro
  iter i l pos hb := let ⟨s, h1, h2⟩ := h.iter i l pos hb; ⟨s, (hh _ (hf.box i _ hb rfl) (heap_lt h1)).trans h1, h2⟩
  inj := h.inj
  sep := h.sep
  ids g' len e hg := let ⟨b, n, cap, sz, cur, h1, h2, h3⟩ := h.ids g' len e hg; ⟨b, n, cap, sz, cur, h1, (hh _ (hf.id g' _ b 0 n cap hg h1) (heap_lt h2)).trans h2, h3⟩
  idinj := h.idinj
  size := Nat.le_trans h.size hs
  keep b hb hN := (hh b (fun e => by subst e; exact hN (hg0 hb)) (Nat.lt_of_lt_of_le hb h.size)).trans (h.keep b hb hN)
  ownN := h.ownN
  idN := h.idN
  known := h.known
  hole := h.hole
  still := h.still.trans hst

theorem WRel.alloc (h : WRel C S w0 N w) (o : Obj) : WRel C S w0 N (w.alloc o) :=
  h.same (by simp) (fun b hb => by show (w.heap.push o)[b]? = _; rw [Array.getElem?_push, if_neg (by omega)])

theorem WRel.own_lt (h : WRel C S w0 N w) {i : Nat} {b : Box} (hb : S.bx[i]? = some b) (ho : b.own = true) : C.be i < w.heap.size := by
  cases b with
  | cells t l => obtain ⟨vs, h1, _⟩ := h.cells i t l hb; exact heap_lt h1
  | iter l p => obtain ⟨s, h1, _⟩ := h.iter i l p hb; exact heap_lt h1
  | ro l => cases ho
  | hole => cases ho
  | dead => cases ho
  | away => cases ho

theorem WRel.free_new (h : WRel C S w0 N w) : Free C S w0 N w.heap.size where
  base := .inr h.size
  box i b hb ho := by have := h.own_lt hb ho; omega
  sg k := by
    cases hk : C.sg w.heap.size k with
    | none => rfl
    | some v => have := cell_lt (h.sg _ _ _ hk); omega
  id γ x b o n c hx he := by
    obtain ⟨len, e⟩ := x
    obtain ⟨b', n', cap, sz, cur, h1, h2, _⟩ := h.ids γ len e hx
    rw [h1] at he
    cases he
    have := heap_lt h2
    omega

/-- The state with a box more, or with a kept place taken. -/
theorem newBox_spec {at_ : Option Nat} {b : Box} {i : Nat} {S' : St} (h : newBox at_ S b = some (i, S')) :
    S'.fr = S.fr ∧ (∀ j, S'.bx[j]? = if j = i then some b else S.bx[j]?) ∧ (∀ x, S.bx[i]? = some x → x = .hole) ∧ S.bx.length ≤ S'.bx.length := by
  unfold newBox at h
  split at h
  · simp at h
    obtain ⟨rfl, rfl⟩ := h
    refine ⟨rfl, fun j => ?_, fun x hx => by simp at hx, by simp⟩
    by_cases e : j = S.bx.length
    · subst e; simp
    · rw [if_neg e]
      rcases Nat.lt_or_ge j S.bx.length with h' | h'
      · simp [List.getElem?_append_left h']
      · rw [List.getElem?_append_right h', List.getElem?_eq_none h']
        simp; omega
  · rename_i k
    split at h
    · rename_i hk
      simp at h
      obtain ⟨rfl, rfl⟩ := h
      refine ⟨rfl, fun j => ?_, fun x hx => by rw [hk] at hx; cases hx; rfl, by simp⟩
      have hlt : k < S.bx.length := by
        rcases Nat.lt_or_ge k S.bx.length with h' | h'
        · exact h'
        · simp [h'] at hk
      by_cases e : j = k
      · subst e; simp [hlt]
      · rw [if_neg e, List.getElem?_set_ne (fun h => e h.symm)]
    · cases h

theorem newBox_none {b : Box} {i : Nat} {S' : St} (h : newBox none S b = some (i, S')) : S.bx[i]? ≠ some .hole := by
  simp [newBox] at h
  obtain ⟨rfl, _⟩ := h
  simp

theorem newBox_some {b : Box} {i k : Nat} {S' : St} (h : newBox (some k) S b = some (i, S')) : i = k := by
  simp only [newBox] at h
  split at h
  · simp at h; exact h.1.symm
  · cases h

def Conf.box (C : Conf) (i g z : Nat) : Conf := { C with be := fun k => if k = i then g else C.be k, sz := fun k => if k = i then z else C.sz k }

theorem ext_box {at_ : Option Nat} {b : Box} {i : Nat} {S' : St} (h : newBox at_ S b = some (i, S')) (hro : ∀ l, b ≠ .ro l) (g z : Nat) : Ext C S (C.box i g z) S' := by
  obtain ⟨h1, h2, h3, h4⟩ := newBox_spec h
  refine ⟨SgLe.refl _, fun j x hx hh => ?_, fun γ hγ => ?_, h4, fun j hj => ?_, fun j l hj => ?_⟩
  · have hne : j ≠ i := fun e => by subst e; have := h3 x hx; subst this; cases hh
    exact ⟨x, by rw [h2 j, if_neg hne]; exact hx, hh, fun hl => ⟨hl, by simp [Conf.box, hne], by simp [Conf.box, hne]⟩⟩
  · rw [h1]; exact ⟨hγ, fun len e he => ⟨len, he, Nat.le_refl _, fun _ => rfl⟩⟩
  · have hne : j ≠ i := fun e => by subst e; cases h3 _ hj
    rw [h2 j, if_neg hne]; exact hj
  · rw [h2 j] at hj
    split at hj
    · exact absurd (Option.some.inj hj) (hro l)
    · exact hj

/-- A free block becomes a box. -/
theorem WRel.adopt (h : WRel C S w0 N w) {at_ : Option Nat} {b : Box} {i g z : Nat} {S' : St} (hn : newBox at_ S b = some (i, S')) (hf : Free C S w0 N g)
    (hc : ∀ t l, b = .cells t l → ∃ vs : Array Value, w.heap[g]? = some (.cells vs t (0, 0)) ∧ l.length ≤ vs.size ∧ vs.size = z ∧ Reads C S (fun k => vs[k]?) l)
    (hat : ∀ k, at_ = some k → ¬ w0.hl k) (hro : ∀ l, b ≠ .ro l) (hi : ∀ l pos, b = .iter l pos → ∃ s, w.heap[g]? = some (.stringIter s pos) ∧ bytesL s = l) : WRel (C.box i g z) S' w0 N w := by
  obtain ⟨h1, h2, h3, h4⟩ := newBox_spec hn
  have x := ext_box (C := C) hn hro g z
  have get : ∀ j y, S'.bx[j]? = some y → (j = i ∧ y = b) ∨ (j ≠ i ∧ S.bx[j]? = some y) := by
    intro j y hy
    rw [h2 j] at hy
    by_cases e : j = i
    · rw [if_pos e] at hy; cases hy; exact .inl ⟨e, rfl⟩
    · rw [if_neg e] at hy; exact .inr ⟨e, hy⟩
  have be1 : (C.box i g z).be i = g := by simp [Conf.box]
  have be2 : ∀ j, j ≠ i → (C.box i g z).be j = C.be j := fun j hj => by simp [Conf.box, hj]
  have sz1 : (C.box i g z).sz i = z := by simp [Conf.box]
  have sz2 : ∀ j, j ≠ i → (C.box i g z).sz j = C.sz j := fun j hj => by simp [Conf.box, hj]
  refine ⟨h.sg, ?_, ?_, ?_, ?_, ?_, ?_, ?_, h.size, h.keep, ?_, ?_, h.known, fun j hj => by
    have hj' := h.hole j hj
    rw [h2 j, if_neg (fun e => ?_)]
    · exact hj'
    · subst e
      cases at_ with
      | none => exact absurd hj' (newBox_none hn)
      | some k => exact hat k rfl (by rw [← newBox_some hn]; exact hj), h.still⟩
  · intro j t l hj
    rcases get j _ hj with ⟨rfl, he⟩ | ⟨hne, hj'⟩
    · obtain ⟨vs, g1, g2, g4, g3⟩ := hc t l he.symm
      exact ⟨vs, by rw [be1]; exact g1, g2, by rw [sz1]; exact g4, g3.mono x⟩
    · obtain ⟨vs, g1, g2, g4, g3⟩ := h.cells j t l hj'
      exact ⟨vs, by rw [be2 j hne]; exact g1, g2, by rw [sz2 j hne]; exact g4, g3.mono x⟩
  · intro j l hj
    rcases get j _ hj with ⟨rfl, he⟩ | ⟨hne, hj'⟩
    · exact absurd he.symm (hro l)
    · obtain ⟨g1, vs, t, fz, g2, g3, g4, g5⟩ := h.ro j l hj'
      rw [be2 j hne, sz2 j hne]
      exact ⟨g1, vs, t, fz, g2, g3, g4, g5.mono x⟩
  · intro j l pos hj
    rcases get j _ hj with ⟨rfl, he⟩ | ⟨hne, hj'⟩
    · rw [be1]; exact hi l pos he.symm
    · rw [be2 j hne]; exact h.iter j l pos hj'
  · intro j k y z hj hk hy hz he
    rcases get j _ hj with ⟨rfl, rfl⟩ | ⟨hne, hj'⟩ <;> rcases get k _ hk with ⟨rfl, rfl⟩ | ⟨hne', hk'⟩
    · rfl
    · rw [be1, be2 k hne'] at he; exact absurd he.symm (hf.box k z hk' hz)
    · rw [be1, be2 j hne] at he; exact absurd he (hf.box j y hj' hy)
    · rw [be2 j hne, be2 k hne'] at he; exact h.inj j k y z hj' hk' hy hz he
  · intro j y hj hy k
    rcases get j _ hj with ⟨rfl, rfl⟩ | ⟨hne, hj'⟩
    · rw [be1]; exact hf.sg k
    · rw [be2 j hne]; exact h.sep j y hj' hy k
  · intro γ len e hγ
    rw [h1] at hγ
    obtain ⟨b', n, cap, sz, cur, g1, g2, g3, g4, g5, g6, g7, g8⟩ := h.ids γ len e hγ
    refine ⟨b', n, cap, sz, cur, g1, g2, g3, g4, g5, g6, g7, fun j y hj hy => ?_⟩
    rcases get j _ hj with ⟨rfl, rfl⟩ | ⟨hne, hj'⟩
    · rw [be1]; exact fun e => hf.id γ _ b' 0 n cap hγ g1 e.symm
    · rw [be2 j hne]; exact g8 j y hj' hy
  · intro γ γ' y y' b1 b2 o o' n n' c c' hγ hγ'
    rw [h1] at hγ hγ'
    exact h.idinj γ γ' y y' b1 b2 o o' n n' c c' hγ hγ'
  · intro j y hj hy
    rcases get j _ hj with ⟨rfl, rfl⟩ | ⟨hne, hj'⟩
    · rw [be1]; exact hf.base
    · rw [be2 j hne]; exact h.ownN j y hj' hy
  · intro γ y b1 o n c hγ
    rw [h1] at hγ
    exact h.idN γ y b1 o n c hγ

theorem heap_new (w : World) (o : Obj) : (w.alloc o).heap[w.heap.size]? = some o := by show (w.heap.push o)[w.heap.size]? = _; simp

/-- A new box of cells. -/
theorem new_cells (h : WRel C S w0 N w) {at_ : Option Nat} (hat : ∀ k, at_ = some k → ¬ w0.hl k) {t i : Nat} {l : List PV} {vs : Array Value} {S' : St} (hn : newBox at_ S (.cells t l) = some (i, S')) (hl : vs.size = l.length)
    (hr : Reads C S (fun k => vs[k]?) l) : Ext C S (C.box i w.heap.size vs.size) S' ∧ VRel (C.box i w.heap.size vs.size) S' (.ptr i 0) (.pointer (some ⟨w.heap.size, 0, none⟩)) ∧
      (∀ n z, l.length = n * z → VRel (C.box i w.heap.size vs.size) S' (.ms i 0 n l.length) (.slice (some ⟨w.heap.size, 0, none⟩) n n)) ∧ WRel (C.box i w.heap.size vs.size) S' w0 N (w.alloc (.cells vs t)) := by
  obtain ⟨h1, h2, h3, h4⟩ := newBox_spec hn
  have hb : S'.bx[i]? = some (.cells t l) := by rw [h2, if_pos rfl]
  refine ⟨ext_box hn (fun l he => by cases he) _ _, .ptr i 0 _ _ hb rfl (fun _ => by simp [Conf.box]), fun n z hz => .ms i 0 _ _ _ _ _ hb rfl (Nat.le_refl _) (fun _ _ => ⟨by simp [Conf.box], z, hz, by simp [Conf.box]; omega⟩), ?_⟩
  refine (h.alloc _).adopt hn ?_ (fun t' l' he => ?_) hat (fun l' he => by cases he) (fun l' p he => by cases he)
  · exact h.free_new
  · cases he
    exact ⟨vs, heap_new w _, by omega, rfl, hr⟩

/-- A box is let go. -/
theorem ext_dead {i : Nat} (hna : S.bx[i]? ≠ some .away) : Ext C S C ⟨S.bx.set i .dead, S.fr⟩ := by
  refine ⟨SgLe.refl _, fun j x hx hh => ?_, fun γ hγ => ⟨hγ, fun len e he => ⟨len, he, Nat.le_refl _, fun _ => rfl⟩⟩, by simp, fun j hj => by
    have : i ≠ j := fun e => hna (e ▸ hj)
    simp [List.getElem?_set_ne this, hj], fun j l hj => by
    by_cases e : i = j
    · subst e
      rcases Nat.lt_or_ge i S.bx.length with h' | h'
      · simp [h'] at hj
      · simp [h'] at hj
    · simpa [List.getElem?_set_ne e] using hj⟩
  by_cases e : i = j
  · subst e
    have hlt : i < S.bx.length := by
      rcases Nat.lt_or_ge i S.bx.length with h' | h'
      · exact h'
      · simp [h'] at hx
    exact ⟨.dead, by simp [hlt], rfl, fun hl => by cases hl⟩
  · exact ⟨x, by simp [List.getElem?_set_ne e, hx], hh, fun hl => ⟨hl, rfl, rfl⟩⟩

theorem get_dead {i j : Nat} {y : Box} (h : (S.bx.set i .dead)[j]? = some y) (hy : y ≠ .dead) : j ≠ i ∧ S.bx[j]? = some y := by
  by_cases e : i = j
  · subst e
    rcases Nat.lt_or_ge i S.bx.length with h' | h'
    · simp [h'] at h; exact absurd h.symm hy
    · simp [h'] at h
  · exact ⟨fun h => e h.symm, by simpa [List.getElem?_set_ne e] using h⟩

theorem WRel.dead (h : WRel C S w0 N w) (i : Nat) (hna : S.bx[i]? ≠ some .away) (hnh : S.bx[i]? ≠ some .hole) : WRel C ⟨S.bx.set i .dead, S.fr⟩ w0 N w := by
  have x := ext_dead (C := C) (S := S) (i := i) hna
  refine ⟨h.sg, ?_, ?_, ?_, ?_, ?_, ?_, h.idinj, h.size, h.keep, ?_, h.idN, h.known, fun j hj => by
    have hj' := h.hole j hj
    have : i ≠ j := fun e => hnh (e ▸ hj')
    simp [List.getElem?_set_ne this, hj'], h.still⟩
  · intro j t l hj
    obtain ⟨vs, g1, g2, g4, g3⟩ := h.cells j t l (get_dead hj (by simp)).2
    exact ⟨vs, g1, g2, g4, g3.mono x⟩
  · intro j l hj
    obtain ⟨g1, vs, t, fz, g2, g3, g4, g5⟩ := h.ro j l (get_dead hj (by simp)).2
    exact ⟨g1, vs, t, fz, g2, g3, g4, g5.mono x⟩
  · intro j l pos hj; exact h.iter j l pos (get_dead hj (by simp)).2
  · intro j k y z hj hk hy hz he
    exact h.inj j k y z (get_dead hj (by intro e; subst e; cases hy)).2 (get_dead hk (by intro e; subst e; cases hz)).2 hy hz he
  · intro j y hj hy k; exact h.sep j y (get_dead hj (by intro e; subst e; cases hy)).2 hy k
  · intro γ len e hγ
    obtain ⟨b', n, cap, sz, cur, g1, g2, g3, g4, g5, g6, g7, g8⟩ := h.ids γ len e hγ
    exact ⟨b', n, cap, sz, cur, g1, g2, g3, g4, g5, g6, g7, fun j y hj hy => g8 j y (get_dead hj (by intro e; subst e; cases hy)).2 hy⟩
  · intro j y hj hy; exact h.ownN j y (get_dead hj (by intro e; subst e; cases hy)).2 hy

/-- Behind a box that was let go its block is free. -/
theorem WRel.free_dead (h : WRel C S w0 N w) {i : Nat} {b : Box} (hb : S.bx[i]? = some b) (ho : b.own = true) : Free C ⟨S.bx.set i .dead, S.fr⟩ w0 N (C.be i) where
  base := h.ownN i b hb ho
  box j y hj hy := by
    obtain ⟨h1, h2⟩ := get_dead hj (by intro e; subst e; cases hy)
    exact fun he => h1 (h.inj j i y b h2 hb hy ho he)
  sg := h.sep i b hb ho
  id γ x b' o n c hx he := by
    obtain ⟨len, e⟩ := x
    obtain ⟨b1, n', cap, sz, cur, h1, h2, _, _, _, _, _, h8⟩ := h.ids γ len e hx
    rw [h1] at he
    cases he
    exact fun he => h8 i b hb ho he.symm

/-- Cells of a free block become fixed. -/
def Conf.fix (C : Conf) (g : Nat) (vs : Array Value) (n : Nat) : Conf := { C with sg := fun b k => if b = g ∧ k < n then vs[k]? else C.sg b k }

theorem sg_fix {g : Nat} (hf : ∀ k, C.sg g k = none) (vs : Array Value) (n : Nat) : SgLe C.sg (C.fix g vs n).sg := by
  intro b k v hv
  simp only [Conf.fix]
  rw [if_neg (by rintro ⟨rfl, _⟩; rw [hf] at hv; cases hv)]
  exact hv

theorem ext_fix {g : Nat} (hf : ∀ k, C.sg g k = none) (vs : Array Value) (n : Nat) : Ext C S (C.fix g vs n) S :=
  ⟨sg_fix hf vs n, fun i b hb hh => ⟨b, hb, hh, fun hl => ⟨hl, rfl, rfl⟩⟩, fun γ hγ => ⟨hγ, fun len e he => ⟨len, he, Nat.le_refl _, fun _ => rfl⟩⟩, Nat.le_refl _, fun _ h => h, fun _ _ h => h⟩

theorem WRel.fix (h : WRel C S w0 N w) {g t : Nat} {vs : Array Value} {fz : Nat × Nat} (hf : Free C S w0 N g) (hg : w.heap[g]? = some (.cells vs t fz)) (n : Nat) : WRel (C.fix g vs n) S w0 N w := by
  have x := ext_fix (S := S) hf.sg vs n
  refine ⟨?_, ?_, ?_, h.iter, h.inj, ?_, ?_, h.idinj, h.size, h.keep, h.ownN, h.idN, fun b k v hv => ?_, h.hole, h.still⟩
  rotate_right
  · simp only [Conf.fix] at hv
    split at hv
    · rename_i hh; rw [hh.1]; exact .inr hf.base
    · exact h.known b k v hv
  · intro b k v hv
    simp only [Conf.fix] at hv
    split at hv
    · rename_i hh
      obtain ⟨rfl, _⟩ := hh
      simpa [World.cell?, hg] using hv
    · exact h.sg b k v hv
  · intro j t' l hj
    obtain ⟨vs', g1, g2, g4, g3⟩ := h.cells j t' l hj
    exact ⟨vs', g1, g2, g4, g3.mono x⟩
  · intro j l hj
    obtain ⟨g1, vs', t', fz', g2, g3, g4, g5⟩ := h.ro j l hj
    exact ⟨g1, vs', t', fz', g2, g3, g4, g5.mono x⟩
  · intro j y hj hy k
    simp only [Conf.fix]
    rw [if_neg (fun hh => hf.box j y hj hy hh.1)]
    exact h.sep j y hj hy k
  · intro γ len e hγ
    obtain ⟨b', m, cap, sz, cur, g1, g2, g3, g4, g5, g6, g7, g8⟩ := h.ids γ len e hγ
    refine ⟨b', m, cap, sz, cur, g1, g2, g3, g4, g5, g6, fun k hk => ?_, g8⟩
    simp only [Conf.fix]
    rw [if_neg (fun hh => hf.id γ _ b' 0 m cap hγ g1 hh.1)]
    exact g7 k hk

end
end Go.Am

/- append: in place, or into a new row, whatever is appended. No condition. -/
namespace Go.Am
open Go.Lib

section
variable {P : Program} (w : World)

/-- What is appended: so many elements, these cells. -/
structure Src (P : Program) (w : World) (size : Nat) (u : TypeId) (x : Value) (m : Nat) (news : List Value) : Prop where
  type : (∃ d, P.underlying u = some (.slice d)) ∨ P.underlying u = some .string
  len : ∀ w1, (Builtin.lenOf x).run P w1 = .ok m w1
  cells : ∀ w1 : World, w1.heap = w.heap → (Builtin.firstCells size m x).run P w1 = .ok news.toArray w1
  one : ∀ v ∈ news, v.oneCell' = true
  size : news.length = m * size

theorem append_room (t u ty e : TypeId) (i : TypeInfo) (ht : P.underlying t = some (.slice e)) (hi : P.info? e = some i)
    (g sLen sCap : Nat) (cur : Array Value) (hg : w.heap[g]? = some (.cells cur e (0, 0))) (x : Value) (m : Nat) (news : List Value) (hx : Src P w i.size u x m news)
    (hroom : sLen + m ≤ sCap) (hfit : sLen * i.size + news.length ≤ cur.size) :
    (Builtin.append_ #[t, u] ty #[.slice (some ⟨g, 0, none⟩) sLen sCap, x]).run P w =
      .ok (.slice (some ⟨g, 0, none⟩) (sLen + m) sCap) (w.setRow g (cur.toList.take (sLen * i.size) ++ news ++ cur.toList.drop (sLen * i.size + news.length)).toArray) := by
  have hf := hx.cells w rfl
  have hst := run_storeCells_at P g (sLen * i.size) e news 0 cur w hg (by simpa using hfit) hx.one
  simp only [Nat.add_zero] at hst
  have hl := hx.len w
  rcases hx.type with ⟨d, hd⟩ | hd <;> simp [Builtin.append_, run_underlying ht, run_underlying hd, sizeOf, typeInfo, hi, hl, hroom, hf, Addr.add_lit, hst]

theorem append_grow (t u ty e : TypeId) (i : TypeInfo) (z : Value) (ht : P.underlying t = some (.slice e)) (hi : P.info? e = some i) (hz : i.zero = some z)
    (s : Option Addr) (sLen sCap : Nat) (olds : List Value) (holds : ∀ w1 : World, w1.heap = w.heap → (Builtin.firstCells i.size sLen (.slice s sLen sCap)).run P w1 = .ok olds.toArray w1)
    (x : Value) (m : Nat) (news : List Value) (hx : Src P w i.size u x m news)
    (hg : sCap < sLen + m) (h63 : sLen + m ≤ 9223372036854775807) (hfit : Builtin.nextslicecap (sLen + m) sCap * i.bytes ≤ 281474976710656) :
    (Builtin.append_ #[t, u] ty #[.slice s sLen sCap, x]).run P w =
      .ok (.slice (some ⟨w.heap.size, 0, none⟩) (sLen + m) (grownCap w (sLen + m) sCap e))
        (w.drew.alloc (.cells (olds.toArray ++ news.toArray ++ Builtin.zeroCells z.cells (grownCap w (sLen + m) sCap e - (sLen + m))) e)) := by
  have hn : ¬ (sLen + m ≤ sCap) := by omega
  have h63' : ¬ (9223372036854775807 < ((sLen : Int) + (m : Int))) := by omega
  have h48' : ¬ (281474976710656 < Builtin.nextslicecap (sLen + m) sCap * i.bytes) := by omega
  have hf := hx.cells w.drew rfl
  have hfo := holds w.drew rfl
  have hl := hx.len w
  rcases hx.type with ⟨d, hd⟩ | hd <;> (simp [Builtin.append_, run_underlying ht, run_underlying hd, sizeOf, typeInfo, zeroValue, hi, hz, hl, hn, h63', h48', Question.forced, hf, hfo, newRow, grownCap]; try (congr 2; apply Array.ext'; simp [List.append_assoc]))

/-- Nothing is appended: the slice as it is. -/
theorem append_nothing (t u ty e : TypeId) (i : TypeInfo) (ht : P.underlying t = some (.slice e)) (hi : P.info? e = some i) (s : Option Addr) (sLen sCap : Nat) (hc : sLen ≤ sCap) (x : Value)
    (hx : Src P w i.size u x 0 []) : (Builtin.append_ #[t, u] ty #[.slice s sLen sCap, x]).run P w = .ok (.slice s sLen sCap) w := by
  have hf := hx.cells w rfl
  have hl := hx.len w
  cases s <;> rcases hx.type with ⟨d, hd⟩ | hd <;> simp [Builtin.append_, run_underlying ht, run_underlying hd, sizeOf, typeInfo, hi, hl, hf, hc, storeCells]

theorem src_slice {w : World} {size : Nat} {u e : TypeId} (hu : P.underlying u = some (.slice e)) {a : Addr} {n c : Nat} {cs : List Value} (hl : cs.length = n * size)
    (h : ∀ j v, cs[j]? = some v → w.cell? (a.add j) = some v) (h1 : ∀ v ∈ cs, v.oneCell' = true) : Src P w size u (.slice (some a) n c) n cs where
  type := .inl ⟨_, hu⟩
  len _ := by simp [Builtin.lenOf]
  cells w1 hw := run_firstCells_some (P := P) w1 size n a n c cs hl (fun j v hj => by have := h j v hj; simpa [World.cell?, hw] using this)
  one := h1
  size := hl

theorem src_nil {w : World} {size : Nat} {u e : TypeId} (hu : P.underlying u = some (.slice e)) {c : Nat} : Src P w size u (.slice none 0 c) 0 [] where
  type := .inl ⟨_, hu⟩
  len _ := by simp [Builtin.lenOf]
  cells w1 _ := by simp [Builtin.firstCells]
  one _ h := by cases h
  size := by simp

theorem src_string {w : World} {u : TypeId} (hu : P.underlying u = some .string) (s : ByteArray) : Src P w 1 u (.string s) s.size (strCells s) where
  type := .inr hu
  len _ := by simp [Builtin.lenOf]
  cells w1 _ := run_firstCells_string w1 1 s
  one := strCells_oneCell s
  size := by rw [strCells_length]; simp

end
end Go.Am

/- append in the abstract machine. No condition. -/
namespace Go.Am
open Go.Lib

section
variable {P : Program} {C : Conf} {S : St} {w0 : Base} {w : World} {N : Nat → Prop}

def Conf.grow (C : Conf) (γ g : Nat) (cur : Array Value) (n : Nat) (v : Value) : Conf :=
  { C with sg := fun b k => if b = g ∧ k < n then cur[k]? else C.sg b k, ep := fun i => if i = γ then v else C.ep i }

/-- A lineage's newest row. -/
theorem lineage (h : WRel C S w0 N w) {γ g e n cap sz : Nat} {cur : Array Value} {cells : List PV} {fr' : List (Option (Nat × Nat))}
    (hg : w.heap[g]? = some (.cells cur e (0, 0))) (hcap : n ≤ cap) (hmax : cap ≤ maxLen) (hsz : cur.size = cap * sz) (hlen : cells.length = n * sz) (hpos : 0 < n ∨ sz = 1)
    (hbase : N g ∨ w0.heap.size ≤ g) (hbox : ∀ i b, S.bx[i]? = some b → b.own = true → C.be i ≠ g) (hsg : ∀ k, cells.length ≤ k → C.sg g k = none)
    (hid : ∀ γ' x b o n c, γ' ≠ γ → S.fr[γ']? = some (some x) → C.ep γ' = .slice (some ⟨b, o, none⟩) n c → b ≠ g)
    (hfr : fr'[γ]? = some (some (cells.length, e))) (hfr2 : ∀ γ', γ' ≠ γ → fr'[γ']? = S.fr[γ']?) (hfr3 : S.fr.length ≤ fr'.length)
    (hold : ∀ l0 e0, S.fr[γ]? = some (some (l0, e0)) → e0 = e ∧ l0 < cells.length) (hold2 : S.fr[γ]? ≠ some none)
    (hr : ∀ i (h : i < cells.length), ∃ v, cur[i]? = some v ∧ CRel C.sg cells[i] v ∧ cells[i].one = true) :
    Ext C S (C.grow γ g cur cells.length (.slice (some ⟨g, 0, none⟩) n cap)) ⟨S.bx, fr'⟩ ∧ WRel (C.grow γ g cur cells.length (.slice (some ⟨g, 0, none⟩) n cap)) ⟨S.bx, fr'⟩ w0 N w ∧
      VRel (C.grow γ g cur cells.length (.slice (some ⟨g, 0, none⟩) n cap)) ⟨S.bx, fr'⟩ (.slice (.id γ) n cells) (.slice (some ⟨g, 0, none⟩) n cap) := by
  generalize hC : C.grow γ g cur cells.length (.slice (some ⟨g, 0, none⟩) n cap) = C'
  have hsgle : SgLe C.sg C'.sg := by
    intro b k v hv
    subst hC
    simp only [Conf.grow]
    split
    · rename_i hh
      obtain ⟨rfl, _⟩ := hh
      have := h.sg _ _ _ hv
      simpa [World.cell?, hg] using this
    · exact hv
  have hbe : C'.be = C.be := by subst hC; rfl
  have hsz' : C'.sz = C.sz := by subst hC; rfl
  have hep1 : C'.ep γ = .slice (some ⟨g, 0, none⟩) n cap := by subst hC; simp [Conf.grow]
  have hep2 : ∀ γ', γ' ≠ γ → C'.ep γ' = C.ep γ' := fun γ' hne => by subst hC; simp [Conf.grow, hne]
  have hsg1 : ∀ k, k < cells.length → C'.sg g k = cur[k]? := fun k hk => by subst hC; simp [Conf.grow, hk]
  have hsg2 : ∀ b k, b ≠ g → C'.sg b k = C.sg b k := fun b k hb => by subst hC; simp [Conf.grow, hb]
  have hsg3 : ∀ k, cells.length ≤ k → C'.sg g k = none := fun k hk => by
    subst hC; simp only [Conf.grow]; rw [if_neg (by omega)]; exact hsg k hk
  have x : Ext C S C' ⟨S.bx, fr'⟩ := by
    refine ⟨hsgle, fun i b hb hh => ⟨b, hb, hh, fun hl => ⟨hl, by rw [hbe], by rw [hsz']⟩⟩, fun γ' hγ' => ?_, Nat.le_refl _, fun _ h => h, fun _ _ h => h⟩
    refine ⟨Nat.lt_of_lt_of_le hγ' hfr3, fun len e' he => ?_⟩
    by_cases hne : γ' = γ
    · subst hne
      simp only at he
      rw [hfr] at he
      cases he
      cases hx : S.fr[γ']? with
      | none => simp at hx; omega
      | some y =>
        cases y with
        | none => exact absurd hx hold2
        | some y =>
          obtain ⟨l0, e0⟩ := y
          obtain ⟨rfl, hlt⟩ := hold l0 e0 hx
          exact ⟨l0, rfl, by omega, fun he => by omega⟩
    · simp only at he
      rw [hfr2 γ' hne] at he
      exact ⟨len, he, Nat.le_refl _, fun _ => hep2 γ' hne⟩
  refine ⟨x, ⟨?_, ?_, ?_, ?_, ?_, ?_, ?_, ?_, h.size, h.keep, ?_, ?_, fun b k v hv => by
    by_cases e1 : b = g
    · subst e1; exact .inr hbase
    · rw [hsg2 b k e1] at hv; exact h.known b k v hv, h.hole, h.still⟩, ?_⟩
  · intro b k v hv
    by_cases e1 : b = g
    · subst e1
      rcases Nat.lt_or_ge k cells.length with h1 | h1
      · rw [hsg1 k h1] at hv; simpa [World.cell?, hg] using hv
      · rw [hsg3 k h1] at hv; cases hv
    · rw [hsg2 b k e1] at hv; exact h.sg b k v hv
  · intro j t l hj
    obtain ⟨vs, g1, g2, g4, g3⟩ := h.cells j t l hj
    exact ⟨vs, by rw [hbe]; exact g1, g2, by rw [hsz']; exact g4, g3.mono x⟩
  · intro j l hj
    obtain ⟨g1, vs', t', fz', g2, g3, g4, g5⟩ := h.ro j l hj
    rw [hbe, hsz']
    exact ⟨g1, vs', t', fz', g2, g3, g4, g5.mono x⟩
  · intro j l pos hj; rw [hbe]; exact h.iter j l pos hj
  · intro i j b b' hi hj hb hb' he
    rw [hbe] at he
    exact h.inj i j b b' hi hj hb hb' he
  · intro j y hj hy k
    rw [hbe, hsg2 _ k (hbox j y hj hy)]
    exact h.sep j y hj hy k
  · intro γ' len e' hγ'
    by_cases hne : γ' = γ
    · subst hne
      simp only at hγ'
      rw [hfr] at hγ'
      cases hγ'
      exact ⟨g, n, cap, sz, cur, hep1, hg, hcap, hmax, hsz, ⟨hlen, hpos⟩, hsg3, fun i y hi hy => by rw [hbe]; exact hbox i y hi hy⟩
    · simp only at hγ'
      rw [hfr2 γ' hne] at hγ'
      obtain ⟨b', m, cap', sz', cur', g1, g2, g3, g4, g5, g6, g7, g8⟩ := h.ids γ' len e' hγ'
      have hbg := hid γ' _ b' 0 m cap' hne hγ' g1
      exact ⟨b', m, cap', sz', cur', by rw [hep2 γ' hne]; exact g1, g2, g3, g4, g5, g6, fun k hk => by rw [hsg2 b' k hbg]; exact g7 k hk, fun i y hi hy => by rw [hbe]; exact g8 i y hi hy⟩
  · intro γ1 γ2 y y' b1 b2 o o' n1 n2 c1 c2 h1 h2 h3 h4 h5
    simp only at h1 h2
    by_cases e1 : γ1 = γ <;> by_cases e2 : γ2 = γ
    · rw [e1, e2]
    · subst e1
      rw [hep1] at h3; cases h3
      rw [hfr2 γ2 e2] at h2
      rw [hep2 γ2 e2] at h4
      exact absurd h5.symm (hid γ2 y' b2 o' n2 c2 e2 h2 h4)
    · subst e2
      rw [hep1] at h4; cases h4
      rw [hfr2 γ1 e1] at h1
      rw [hep2 γ1 e1] at h3
      exact absurd h5 (hid γ1 y b1 o n1 c1 e1 h1 h3)
    · rw [hfr2 γ1 e1] at h1
      rw [hfr2 γ2 e2] at h2
      rw [hep2 γ1 e1] at h3
      rw [hep2 γ2 e2] at h4
      exact h.idinj γ1 γ2 y y' b1 b2 o o' n1 n2 c1 c2 h1 h2 h3 h4 h5
  · intro j y hj hy; rw [hbe]; exact h.ownN j y hj hy
  · intro γ' y b1 o n1 c1 h1 h2
    simp only at h1
    by_cases e1 : γ' = γ
    · subst e1
      rw [hep1] at h2; cases h2
      exact hbase
    · rw [hfr2 γ' e1] at h1
      rw [hep2 γ' e1] at h2
      exact h.idN γ' y b1 o n1 c1 h1 h2
  · have hγ : γ < fr'.length := by
      rcases Nat.lt_or_ge γ fr'.length with h' | h'
      · exact h'
      · simp [h'] at hfr
    refine .sid γ n cells g 0 cap (fun i => cur.getD i Go.undef) hγ hcap (fun i hi => (hr i hi).choose_spec.2.2) (fun i hi => ?_) (fun i hi => ?_) (fun len e' he => ?_)
    · obtain ⟨v, h1, _⟩ := hr i hi
      have : i < cur.size := by
        rcases Nat.lt_or_ge i cur.size with h' | h'
        · exact h'
        · simp [h'] at h1
      rw [Nat.zero_add, hsg1 i hi]
      simp [Array.getD_eq_getD_getElem?, this]
    · obtain ⟨v, h1, h2, _⟩ := hr i hi
      have h2' := h2.mono hsgle
      simpa [Array.getD_eq_getD_getElem?, h1] using h2'
    · simp only at he
      rw [hfr] at he
      cases he
      exact ⟨Nat.le_refl _, fun _ => hep1⟩

theorem mapO_spec {f : PV → Option PV} : ∀ {l l' : List PV}, mapO f l = some l' → l'.length = l.length ∧ ∀ i (h : i < l.length) (h' : i < l'.length), f l[i] = some l'[i]
  | [], l', h => by simp [mapO] at h; subst h; simp
  | v :: r, l', h => by
    simp only [mapO] at h
    split at h
    · rename_i x y hx hy
      simp at h; subst h
      obtain ⟨h1, h2⟩ := mapO_spec hy
      refine ⟨by simp [h1], fun i hi hi' => ?_⟩
      cases i with
      | zero => exact hx
      | succ i => exact h2 i (Nat.lt_of_succ_lt_succ hi) (Nat.lt_of_succ_lt_succ hi')
    · cases h

theorem fz_one {B : Nat} {bx : List Box} {n : Nat} {p q : PV} (h : fz B bx n p = some q) (hp : p.one = true) : q.one = true := by
  cases n with
  | zero => simp [fz] at h
  | succ n =>
    cases p <;> simp only [fz, Option.some.injEq, reduceCtorEq] at h
    case agg => simp [PV.one] at hp
    case tup => simp [PV.one] at hp
    case ptr i off =>
      simp only [cond_eq_ite] at h
      split at h
      · cases h
      · split at h
        · simp only [Option.map_eq_some_iff] at h; obtain ⟨_, _, rfl⟩ := h; rfl
        · cases h
    case ms i off m wd =>
      simp only [cond_eq_ite] at h
      split at h
      · cases h
      · split at h
        · split at h
          · simp only [Option.map_eq_some_iff] at h; obtain ⟨_, _, rfl⟩ := h; rfl
          · cases h
        · cases h
    case func f a b =>
      split at h
      · simp at h; subst h; rfl
      · cases h
    all_goals (subst h; first | rfl | exact hp)

/-- What 'fz' gives reads as a value that never changes, where the boxes from B on are known. -/
theorem fz_rel {B : Nat} {bx : List Box} {sg : Nat → Nat → Option Value} (hsg : SgLe C.sg sg)
    (hbx : ∀ i t l, B ≤ i → bx[i]? = some (.cells t l) → S.bx[i]? = some (.cells t l) ∧ ∀ k (h : k < l.length), ∃ v, sg (C.be i) k = some v ∧ VRel C S l[k] v ∧ l[k].one = true) :
    ∀ (n : Nat) {p q : PV} {x : Value}, fz B bx n p = some q → VRel C S p x → CRel sg q x
  | 0, p, q, x, h, _ => by simp [fz] at h
  | n + 1, p, q, x, h, hx => by
    have ih := @fz_rel B bx sg hsg hbx n
    have list : ∀ {l l' : List PV} {vs : Nat → Value}, mapO (fz B bx n) l = some l' → (∀ i (h : i < l.length), VRel C S l[i] (vs i)) → l'.length = l.length ∧ (∀ i (h : i < l'.length), CRel sg l'[i] (vs i)) ∧
        ((∀ i (h : i < l.length), l[i].one = true) → ∀ i (h : i < l'.length), l'[i].one = true) := by
      intro l l' vs hm hv
      obtain ⟨h1, h2⟩ := mapO_spec hm
      refine ⟨h1, fun i hi => ih (h2 i (by omega) hi) (hv i (by omega)), fun ho i hi => fz_one (h2 i (by omega) hi) (ho i (by omega))⟩
    cases p <;> simp only [fz, Option.some.injEq, reduceCtorEq] at h
    case ptr i off =>
      simp only [cond_eq_ite, Nat.blt_eq] at h
      split at h
      · cases h
      · rename_i hB
        split at h
        · rename_i t l hi
          simp only [Option.map_eq_some_iff] at h
          obtain ⟨l', hm, rfl⟩ := h
          obtain ⟨hb, hk⟩ := hbx i t l (by omega) hi
          have hv : ∀ k (h : k < l.length), VRel C S l[k] ((sg (C.be i) k).getD Go.undef) := fun k hk' => by
            obtain ⟨v, h1, h2, _⟩ := hk k hk'
            rw [h1]; exact h2
          obtain ⟨h1, h2, h3⟩ := list hm hv
          cases hx with
          | clean _ _ hx => cases hx
          | ptr _ _ a b hi' hh ha =>
            rw [hb] at hi'; cases hi'
            rw [ha rfl]
            have := CRel.imm off l' (C.be i) 0 (fun k => (sg (C.be i) k).getD Go.undef) (sg := sg) (h3 (fun k hk' => (hk k hk').choose_spec.2.2)) (fun k hk' => by
              obtain ⟨v, g1, _⟩ := hk k (by omega)
              simp [g1]) h2
            simpa using this
        · cases h
    case ms i off m wd =>
      simp only [cond_eq_ite, Bool.or_eq_true, Nat.blt_eq, nat_beq] at h
      split at h
      · cases h
      · rename_i hB
        split at h
        · rename_i t l hi
          simp only [Nat.ble_eq] at h
          split at h
          · rename_i hle
            simp only [Option.map_eq_some_iff] at h
            obtain ⟨l', hm, rfl⟩ := h
            obtain ⟨hb, hk⟩ := hbx i t l (by omega) hi
            have hlen : ((l.drop off).take wd).length = wd := by simp; omega
            have hv : ∀ k (h : k < ((l.drop off).take wd).length), VRel C S ((l.drop off).take wd)[k] ((sg (C.be i) (off + k)).getD Go.undef) := fun k hk' => by
              rw [hlen] at hk'
              obtain ⟨v, h1, h2, _⟩ := hk (off + k) (by omega)
              rw [h1]; simpa using h2
            obtain ⟨h1, h2, h3⟩ := list hm hv
            obtain ⟨a, cap, b, rfl, hn, hb', hh, ha⟩ := ms_inv hx
            rw [hb] at hb'; cases hb'
            obtain ⟨rfl, _⟩ := ha rfl (by omega)
            refine .sh m l' (C.be i) off cap (fun k => (sg (C.be i) (off + k)).getD Go.undef) hn (h3 (fun k hk' => ?_)) (fun k hk' => ?_) h2
            · rw [hlen] at hk'
              simpa using (hk (off + k) (by omega)).choose_spec.2.2
            · obtain ⟨v, g1, _⟩ := hk (off + k) (by omega)
              simp [g1]
          · cases h
        · cases h
    case slice k m cells =>
      subst h
      obtain ⟨a, cap, vs, rfl, hn, ho, hs, hc, _, hsp⟩ := slice_inv hx
      rcases hsp with hsp | ⟨rfl, rfl⟩
      · obtain ⟨b, o, s⟩ := a
        cases hsp
        exact .sh m cells b o cap vs hn ho (fun i hi => hsg _ _ _ (hs i hi)) (fun i hi => (hc i hi).mono hsg)
      · exact .she a cap
    case agg cs =>
      simp only [Option.map_eq_some_iff] at h
      obtain ⟨l', hm, rfl⟩ := h
      obtain ⟨as, rfl, hl, hr⟩ := hx.aggCells
      have hv : ∀ i (h : i < cs.length), VRel C S cs[i] (as.getD i Go.undef) := fun i hi => by
        obtain ⟨u, h1, h2, _⟩ := hr i hi
        simp only at h1
        simpa [Array.getD_eq_getD_getElem?, h1] using h2
      obtain ⟨h1, h2, h3⟩ := list hm hv
      refine .agg l' as _ (by omega) (h3 (fun i hi => (hr i hi).choose_spec.2.2)) (fun i hi => ?_) h2
      have : i < as.size := by omega
      simp [Array.getD_eq_getD_getElem?, this]
    case tup cs =>
      simp only [Option.map_eq_some_iff] at h
      obtain ⟨l', hm, rfl⟩ := h
      obtain ⟨as, rfl, hl, hr⟩ := tup_rel hx
      have hv : ∀ i (h : i < cs.length), VRel C S cs[i] (as.getD i Go.undef) := fun i hi => by
        obtain ⟨u, h1, h2⟩ := hr i hi
        simpa [Array.getD_eq_getD_getElem?, h1] using h2
      obtain ⟨h1, h2, _⟩ := list hm hv
      refine .tup l' as _ (by omega) (fun i hi => ?_) h2
      have : i < as.size := by omega
      simp [Array.getD_eq_getD_getElem?, this]
    case func f a b =>
      split at h
      · rename_i a' b' ha hb
        simp at h; subst h
        cases hx with
        | clean _ _ hx =>
          cases hx with
          | func _ _ _ as bs va vb hla hlb hva hvb hca hcb =>
            obtain ⟨h1, h2, _⟩ := list ha (fun i hi => .clean _ _ (hca i hi))
            obtain ⟨h3, h4, _⟩ := list hb (fun i hi => .clean _ _ (hcb i hi))
            exact .func f a' b' as bs va vb (by omega) (by omega) (fun i hi => hva i (by omega)) (fun i hi => hvb i (by omega)) h2 h4
        | func _ _ _ as bs va vb hla hlb hva hvb hca hcb =>
          obtain ⟨h1, h2, _⟩ := list ha hca
          obtain ⟨h3, h4, _⟩ := list hb hcb
          exact .func f a' b' as bs va vb (by omega) (by omega) (fun i hi => hva i (by omega)) (fun i hi => hvb i (by omega)) h2 h4
      · cases h
    all_goals
      subst h
      cases hx with
      | clean _ _ hx => exact hx.mono hsg

/-- What is clean reads as a value that never changes. -/
theorem clean_rel {p q : PV} {x : Value} (h : clean p = some q) (hx : VRel C S p x) : CRel C.sg q x :=
  fz_rel (SgLe.refl _) (fun i t l _ hi => by simp at hi) 3 h hx

theorem cleanAll_rel {l l' : List PV} {f : Nat → Option Value} (h : mapO clean l = some l') (hr : Reads C S f l) : l'.length = l.length ∧ ∀ i (h : i < l'.length), ∃ v, f i = some v ∧ CRel C.sg l'[i] v ∧ l'[i].one = true := by
  obtain ⟨h1, h2⟩ := mapO_spec h
  refine ⟨h1, fun i hi => ?_⟩
  obtain ⟨v, g1, g2, g3⟩ := hr i (by omega)
  exact ⟨v, g1, clean_rel (h2 i (by omega) hi) g2, fz_one (h2 i (by omega) hi) g3⟩

end
end Go.Am

/- append in the abstract machine: what it says is so. No condition. -/
namespace Go.Am
open Go.Lib

section
variable {P : Program} {C : Conf} {S : St} {w0 : Base} {w : World} {N : Nat → Prop}

theorem elemE_spec {E : Env} (hE : EOk P E) {t e : Nat} {te : TI} (h : elemE E t = some (e, te)) : P.underlying t = some (.slice e) ∧ TIok P e te := by
  unfold elemE at h
  split at h
  · rename_i ti hti
    have ht := (hE.tt t ti hti).kind
    split at h
    · rename_i e' hk
      simp only [hk] at ht
      split at h
      · rename_i te' hte
        simp at h
        obtain ⟨rfl, rfl⟩ := h
        exact ⟨ht, hE.tt _ _ hte⟩
      · cases h
    · cases h
  · cases h

theorem rowT_spec {E : Env} (hE : EOk P E) {t : Nat} (h : rowT E t = true) : (∃ d, P.underlying t = some (.slice d)) ∨ P.underlying t = some .string := by
  unfold rowT at h
  split at h
  · rename_i ti hti
    have ht := (hE.tt t ti hti).kind
    split at h
    · rename_i e hk; simp only [hk] at ht; exact .inl ⟨e, ht⟩
    · rename_i hk; simp only [hk] at ht; exact .inr ht
    · cases h
  · cases h

/-- The values of some cells. -/
def valuesOf (f : Nat → Option Value) (n : Nat) : List Value := (List.range n).map fun k => (f k).getD Go.undef

theorem valuesOf_get {f : Nat → Option Value} {l : List PV} (h : Reads C S f l) : (valuesOf f l.length).length = l.length ∧ (∀ k, k < l.length → (valuesOf f l.length)[k]? = f k) ∧ (∀ v ∈ valuesOf f l.length, v.oneCell' = true) := by
  have hk : ∀ k, k < l.length → (valuesOf f l.length)[k]? = f k := by
    intro k hk
    obtain ⟨v, h1, _⟩ := h k hk
    simp [valuesOf, hk, h1]
  refine ⟨by simp [valuesOf], hk, fun v hv => ?_⟩
  obtain ⟨k, hk', he⟩ := List.mem_iff_getElem.1 hv
  have hlt : k < l.length := by simpa [valuesOf] using hk'
  have h1 := hk k hlt
  obtain ⟨u, h2, h3, h4⟩ := h k hlt
  rw [List.getElem?_eq_getElem hk', he, h2] at h1
  cases h1
  exact h3.one h4

theorem appended_rel {E : Env} (hE : EOk P E) (hw : WRel C S w0 N w) {u sz m : Nat} (hu : rowT E u = true) {p : PV} {x : Value} (hx : VRel C S p x) {xs : List PV}
    (h : appendedOf S sz p = some (m, xs)) (hl : xs.length = m * sz) (hsz : 0 < sz) : ∃ news, Src P w sz u x m news ∧ Reads C S (fun k => news[k]?) xs ∧ news.length = xs.length := by
  have ht := rowT_spec hE hu
  have mk : ∀ (a : Addr) (c : Nat), Reads C S (fun k => w.cell? (a.add k)) xs → x = .slice (some a) m c → ∃ news, Src P w sz u x m news ∧ Reads C S (fun k => news[k]?) xs ∧ news.length = xs.length := by
    intro a c hr he
    subst he
    obtain ⟨h1, h2, h3⟩ := valuesOf_get hr
    refine ⟨valuesOf (fun k => w.cell? (a.add k)) xs.length, ⟨ht, fun _ => by simp [Builtin.lenOf], fun w1 hw1 => ?_, h3, by omega⟩, hr.congr h2, h1⟩
    refine run_firstCells_some (P := P) w1 sz m a m c _ (by omega) (fun j v hj => ?_)
    have hlt : j < xs.length := by
      rcases Nat.lt_or_ge j (valuesOf (fun k => w.cell? (a.add k)) xs.length).length with h' | h'
      · omega
      · simp [h'] at hj
    rw [h2 j hlt] at hj
    simpa [World.cell?, hw1] using hj
  cases p <;> simp only [appendedOf, Option.some.injEq, Prod.mk.injEq, reduceCtorEq] at h
  case nilslice =>
    obtain ⟨rfl, rfl⟩ := h
    obtain rfl := nilslice_inv hx
    exact ⟨[], ⟨ht, fun _ => by simp [Builtin.lenOf], fun w1 _ => by simp [Builtin.firstCells], fun v hv => (by simp at hv), by simp⟩, Reads.nil _, rfl⟩
  case slice k n cells =>
    obtain ⟨rfl, rfl⟩ := h
    obtain ⟨a, cap, vs, rfl, hn, ho, hs, hc, _, hsp⟩ := slice_inv hx
    refine mk a cap ?_ rfl
    rcases hsp with hsp | ⟨_, hsp⟩
    · obtain ⟨b, o, s⟩ := a
      cases hsp
      exact (Reads.clean ho (fun i hi => hw.sg _ _ _ (hs i hi)) hc).congr fun k _ => by rw [Addr.add_lit]
    · rw [hsp]; exact Reads.nil _
  case str l =>
    simp only [cond_eq_ite, nat_beq] at h
    split at h
    · rename_i h1
      subst h1
      simp at h
      obtain ⟨rfl, rfl⟩ := h
      obtain ⟨s, rfl, rfl⟩ := str_inv hx
      have hsl : (bytesL s).length = s.size := by simp [bytesL]
      refine ⟨strCells s, ⟨ht, fun _ => by simp [Builtin.lenOf, hsl], fun w1 _ => ?_, strCells_oneCell s, by rw [strCells_length, hsl]; simp⟩, fun k hk => ?_, by rw [strCells_length]; simp [hsl]⟩
      · rw [hsl]; exact run_firstCells_string w1 1 s
      · simp only [List.length_map] at hk
        have hk' : k < s.data.toList.length := by simpa [bytesL] using hk
        refine ⟨.int .u8 (s.data.toList[k].toNat : Int), by show (strCells s)[k]? = _; rw [strCells, List.getElem?_map, List.getElem?_eq_getElem hk']; rfl, .clean _ _ ?_, ?_⟩
        · simp only [List.getElem_map, bytesL]
          exact .int _ _
        · simp [PV.one]
    · cases h
  case ms i off n wd =>
    split at h
    · rename_i c hc
      simp at h
      obtain ⟨rfl, rfl⟩ := h
      obtain ⟨a, cap, b, rfl, hn, hi, hh, ha⟩ := ms_inv hx
      obtain ⟨hl', hr, b', hb', hlive⟩ := lookup_reads hw hc
      rw [hi] at hb'; cases hb'
      refine mk a cap (fun k hk => ?_) rfl
      have hpos : 0 < n := by
        rcases Nat.eq_zero_or_pos n with h0 | h0
        · subst h0; rw [hl] at hk; simp at hk
        · exact h0
      obtain ⟨rfl, _⟩ := ha hlive hpos
      simpa [Addr.add_lit] using hr k hk
    · cases h

theorem fits_spec {n b : Nat} (h : fits n b = true) : n ≤ 35184372088832 ∧ n * b ≤ 35184372088832 := by
  simp only [fits, Bool.and_eq_true, Nat.ble_eq, maxBytes] at h
  exact ⟨h.2, h.1⟩

/-- A row that grows: where it lies, and what it holds. -/
theorem grow_run {E : Env} (hw : WRel C S w0 N w) {t u ty e : Nat} {te : TI} (ht : P.underlying t = some (.slice e)) (hte : TIok P e te) {s : Option Addr} {n c m : Nat} {olds news : List Value}
    (holds : ∀ w1 : World, w1.heap = w.heap → (Builtin.firstCells te.size n (.slice s n c)).run P w1 = .ok olds.toArray w1) (hol : olds.length = n * te.size) {x : Value} (hx : Src P w te.size u x m news)
    (hg : c < n + m) (hf : fits (n + m) te.bytes = true) :
    ∃ cap row, (Builtin.append_ #[t, u] ty #[.slice s n c, x]).run P w = .ok (.slice (some ⟨w.heap.size, 0, none⟩) (n + m) cap) (w.drew.alloc (.cells row e)) ∧
      n + m ≤ cap ∧ cap ≤ maxLen ∧ row.size = cap * te.size ∧ (∀ k, k < olds.length → row[k]? = olds[k]?) ∧ (∀ k, k < news.length → row[olds.length + k]? = news[k]?) ∧ WRel C S w0 N (w.drew.alloc (.cells row e)) := by
  obtain ⟨i, z, hi, hsz, hby, hz, hoc, _, hzl, _⟩ := hte.info
  obtain ⟨hf1, hf2⟩ := fits_spec hf
  have hmax : n + m ≤ maxLen := by simp only [maxLen]; omega
  have hzs : z.cells.size = te.size := by have := (ofCells_reads (C := C) (S := S) hoc).1; omega
  have hrun := append_grow (P := P) w t u ty e i z ht hi hz s n c olds (by rw [hsz]; exact holds) x m news (by rw [hsz]; exact hx) hg (by simp only [maxLen] at hmax; omega) (by rw [hby]; exact growslice_fits hg (by omega))
  have hge := grownCap_ge w (n + m) c e
  have hle := grownCap_le_maxLen w (n + m) c e hmax
  refine ⟨_, _, hrun, hge, hle, ?_, fun k hk => ?_, fun k hk => ?_, ?_⟩
  · have h2 := hx.size
    simp only [Array.size_append, List.size_toArray, size_zeroCells, hzs, hol, h2, ← Nat.add_mul]
    congr 1
    omega
  · rw [Array.getElem?_append_left (by simp; omega), Array.getElem?_append_left (by simpa using hk)]; simp
  · rw [Array.getElem?_append_left (by simp; omega), Array.getElem?_append_right (by simp)]
    simp
  · have h1 : WRel C S w0 N w.drew := hw.same (Nat.le_refl _) (fun b _ => rfl)
    exact h1.alloc _


/-- Old cells of a slice that came along. -/
theorem olds_of {k : SK} {n : Nat} {cells : List PV} {sz : Nat} (hw : WRel C S w0 N w) {a : Addr} {cap : Nat} {vs : Nat → Value} (hlen : cells.length = n * sz)
    (hs : ∀ i, i < cells.length → C.sg a.block (a.off + i) = some (vs i)) (hsp : a.spot = none ∨ (n = 0 ∧ cells = [])) : ∃ olds : List Value, olds.length = cells.length ∧ (∀ i, i < cells.length → olds[i]? = some (vs i)) ∧
      ∀ w1 : World, w1.heap = w.heap → (Builtin.firstCells sz n (.slice (some a) n cap)).run P w1 = .ok olds.toArray w1 := by
  refine ⟨(List.range cells.length).map vs, by simp, fun i hi => by simp [hi], fun w1 hw1 => ?_⟩
  refine run_firstCells_some (P := P) w1 sz n _ n cap _ (by simp [hlen]) (fun j v hj => ?_)
  have hlt : j < cells.length := by
    rcases Nat.lt_or_ge j cells.length with h' | h'
    · exact h'
    · simp [h'] at hj
  simp [hlt] at hj
  subst hj
  have := hw.sg _ _ _ (hs j hlt)
  rcases hsp with hsp | ⟨_, hsp⟩
  · obtain ⟨b, o, s⟩ := a
    cases hsp
    rw [Addr.add_lit]
    simpa [World.cell?, hw1] using this
  · rw [hsp] at hlt; simp at hlt

/-- What append comes to. -/
theorem append_rel {E : Env} (hE : EOk P E) (hw : WRel C S w0 N w) {hp : Bool} {at_ : Option Nat} (hat : ∀ k, at_ = some k → ¬ w0.hl k) {t u ty : Nat} (hu : rowT E u = true) {p q r : PV} {x y : Value} (hx : VRel C S p x) (hy : VRel C S q y) {S' : St}
    (h : appendRun E hp at_ S t p q = some (r, S')) :
    ∃ C' v w', (Builtin.append_ #[t, u] ty #[x, y]).run P w = .ok v w' ∧ Ext C S C' S' ∧ VRel C' S' r v ∧ WRel C' S' w0 N w' := by
  unfold appendRun at h
  split at h
  · cases h
  · rename_i e te he
    obtain ⟨ht, hte⟩ := elemE_spec hE he
    obtain ⟨i, z, hi, hsz, hby, hz, _⟩ := hte.info
    split at h
    · cases h
    · rename_i m xs hxs
      simp only [cond_eq_ite, nat_beq, Bool.not_eq_true'] at h
      split at h
      · cases h
      · rename_i hs0
        split at h
        · -- nothing
          rename_i hm
          subst hm
          have hsrc : Src P w te.size u y 0 [] := by
            have ht2 := rowT_spec hE hu
            cases q <;> simp only [appendedOf, Option.some.injEq, Prod.mk.injEq, reduceCtorEq] at hxs
            case nilslice => obtain rfl := nilslice_inv hy; exact ⟨ht2, fun _ => by simp [Builtin.lenOf], fun w1 _ => by simp [Builtin.firstCells], fun v hv => (by cases hv), by simp⟩
            case slice k n cells =>
              obtain ⟨rfl, _⟩ := hxs
              obtain ⟨a', cap, vs, rfl, _⟩ := slice_inv hy
              exact ⟨ht2, fun _ => by simp [Builtin.lenOf], fun w1 _ => by simp [Builtin.firstCells, loadCells, loadCellsFrom], fun v hv => (by cases hv), by simp⟩
            case str l =>
              simp only [cond_eq_ite, nat_beq] at hxs
              split at hxs
              · simp at hxs
                obtain ⟨rfl, _⟩ := hxs
                obtain ⟨s, rfl, hs⟩ := str_inv hy
                have hsl : s.size = 0 := by have := congrArg List.length hs; simpa [bytesL] using this.symm
                refine ⟨ht2, fun _ => by simp [Builtin.lenOf, hsl], fun w1 _ => ?_, fun v hv => (by cases hv), by simp⟩
                have := run_firstCells_string (P := P) w1 te.size s
                rw [hsl] at this
                rw [this]
                have : strCells s = [] := List.eq_nil_of_length_eq_zero (by rw [strCells_length, hsl])
                rw [this]
              · cases hxs
            case ms i off n wd =>
              split at hxs
              · simp at hxs
                obtain ⟨rfl, _⟩ := hxs
                obtain ⟨a, cap, b, rfl, _⟩ := ms_inv hy
                exact ⟨ht2, fun _ => by simp [Builtin.lenOf], fun w1 _ => by simp [Builtin.firstCells, loadCells, loadCellsFrom], fun v hv => (by cases hv), by simp⟩
              · cases hxs
          split at h
          · simp at h; obtain ⟨rfl, rfl⟩ := h
            obtain rfl := nilslice_inv hx
            exact ⟨C, _, w, append_nothing w t u ty e i ht hi none 0 0 (Nat.le_refl _) y (by rw [hsz]; exact hsrc), Ext.refl _ _, hx, hw⟩
          · simp at h; obtain ⟨rfl, rfl⟩ := h
            obtain ⟨a', cap, vs, rfl, hn, _⟩ := slice_inv hx
            exact ⟨C, _, w, append_nothing w t u ty e i ht hi _ _ _ hn y (by rw [hsz]; exact hsrc), Ext.refl _ _, hx, hw⟩
          · simp at h; obtain ⟨rfl, rfl⟩ := h
            obtain ⟨a, cap, b, rfl, hn, _⟩ := ms_inv hx
            exact ⟨C, _, w, append_nothing w t u ty e i ht hi _ _ _ hn y (by rw [hsz]; exact hsrc), Ext.refl _ _, hx, hw⟩
          · cases h
        · rename_i hm
          split at h
          · cases h
          · rename_i hxl
            have hxl : xs.length = m * te.size := by
              have : ¬ (Nat.beq xs.length (m * te.size) = false) := hxl
              rw [Bool.not_eq_false, nat_beq] at this; exact this
            have hsz0 : 0 < te.size := by omega
            have hm0 : 0 < m := by omega
            obtain ⟨news, hsrc, hnr, hnl⟩ := appended_rel (P := P) hE hw hu hy hxs hxl hsz0
            split at h
            · -- rows of one's own, by boxes
              split at h
              · split at h
                · rename_i hf
                  split at h
                  · rename_i j S1 hnb
                    simp at h; obtain ⟨rfl, rfl⟩ := h
                    obtain rfl := nilslice_inv hx
                    obtain ⟨cap, row, g1, g2, g3, g4, _, g6, g7⟩ := grow_run (P := P) (E := E) (t := t) (ty := ty) (olds := []) (s := none) (n := 0) (c := 0) hw ht hte (fun w1 _ => by simp [Builtin.firstCells]) (by simp) hsrc (by omega) (by simpa using hf)
                    simp only [Nat.zero_add] at g1 g2
                    have hfree : Free C S w0 N w.heap.size := hw.free_new
                    have hread : Reads C S (fun k => row[k]?) xs := hnr.congr fun k hk => by have := g6 k (by omega); simpa using this
                    have hW := g7.adopt (z := row.size) hnb hfree (fun t' l' he => by cases he; exact ⟨row, heap_new w.drew _, by rw [g4, hxl]; exact Nat.mul_le_mul_right _ g2, rfl, hread⟩) hat (fun l' he => by cases he) (fun l' p he => by cases he)
                    obtain ⟨s1, s2, s3, s4⟩ := newBox_spec hnb
                    refine ⟨_, _, _, g1, ext_box hnb (fun l he => by cases he) _ _, .ms j 0 m xs.length _ cap _ (by rw [s2, if_pos rfl]) rfl g2 (fun _ _ => ⟨by simp [Conf.box], te.size, hxl, by simp [Conf.box, g4]⟩), hW⟩
                  · cases h
                · cases h
              · rename_i bi off n wd
                split at h
                · rename_i tt l hbi
                  simp only [Bool.and_eq_true, Nat.blt_eq, nat_beq] at h
                  split at h
                  · rename_i hc
                    obtain ⟨hn0, rfl, hlw, hwn, rfl, hf⟩ := hc
                    split at h
                    · rename_i j S1 hnb
                      simp at h; obtain ⟨rfl, rfl⟩ := h
                      obtain ⟨a, cap, b, rfl, hn, hi', hh, ha⟩ := ms_inv hx
                      rw [hbi] at hi'; cases hi'
                      obtain ⟨rfl, z', hz1, hz2⟩ := ha rfl hn0
                      have hzz : z' = te.size := Nat.eq_of_mul_eq_mul_left hn0 (hz1.symm.trans hwn)
                      subst hzz
                      obtain ⟨vs, v1, v2, v3, v4⟩ := hw.cells bi tt l hbi
                      have hD := hw.dead bi (by rw [hbi]; simp) (by rw [hbi]; simp)
                      have hfreeD := hw.free_dead hbi rfl
                      have hxD : Ext C S C ⟨S.bx.set bi .dead, S.fr⟩ := ext_dead (by rw [hbi]; simp)
                      by_cases hroom : n + m ≤ cap
                      · -- in place
                        have hfit : n * te.size + news.length ≤ vs.size := by
                          rw [hnl, hxl, ← Nat.add_mul, v3]
                          have := Nat.mul_le_mul_right te.size hroom
                          omega
                        have hrun := append_room (P := P) w t u ty tt i ht hi (C.be bi) n cap vs v1 y m news (by rw [hsz]; exact hsrc) hroom (by rw [hsz]; exact hfit)
                        rw [hsz] at hrun
                        have hget := setRow_heap w (C.be bi) vs (vs.toList.take (n * te.size) ++ news ++ vs.toList.drop (n * te.size + news.length)).toArray tt (0, 0) v1
                        have hW1 : WRel C ⟨S.bx.set bi .dead, S.fr⟩ w0 N (w.setRow (C.be bi) (vs.toList.take (n * te.size) ++ news ++ vs.toList.drop (n * te.size + news.length)).toArray) :=
                          hD.other hfreeD (by simp) (fun b' hb' _ => setRow_other w _ b' _ hb') (fun hlt => (hw.ownN bi _ hbi rfl).resolve_right (by omega))
                        have hread : Reads C ⟨S.bx.set bi .dead, S.fr⟩ (fun k => (vs.toList.take (n * te.size) ++ news ++ vs.toList.drop (n * te.size + news.length)).toArray[k]?) (l ++ xs) := by
                          have hsp := fun k => splice_get vs.toList news (n * te.size) k (by simpa using hfit)
                          refine Reads.append ((v4.mono hxD).congr fun k hk => ?_) ((hnr.mono hxD).congr fun k hk => ?_)
                          · rw [List.getElem?_toArray, hsp, if_neg (by omega)]; simp
                          · rw [List.getElem?_toArray, hsp, if_pos (by omega)]; congr 1; omega
                        have hsize : (vs.toList.take (n * te.size) ++ news ++ vs.toList.drop (n * te.size + news.length)).toArray.size = vs.size := by simp; omega
                        have hW := hW1.adopt (z := vs.size) hnb hfreeD (fun t' l' he => by cases he; exact ⟨_, hget, by simp; omega, hsize, hread⟩) hat (fun l' he => by cases he) (fun l' p he => by cases he)
                        obtain ⟨s1, s2, s3, s4⟩ := newBox_spec hnb
                        refine ⟨_, _, _, hrun, hxD.trans (ext_box hnb (fun l he => by cases he) _ _), .ms j 0 (n + m) (wd + xs.length) _ cap _ (by rw [s2, if_pos rfl]) rfl hroom (fun _ _ => ⟨by simp [Conf.box], te.size, by rw [hwn, hxl, Nat.add_mul], by simp [Conf.box]; omega⟩), hW⟩
                      · -- a new row
                        have hcell : ∀ j u, (valuesOf (fun k => vs[k]?) l.length)[j]? = some u → w.cell? ((⟨C.be bi, 0, none⟩ : Addr).add j) = some u := by
                          intro j u hj
                          obtain ⟨q1, q2, q3⟩ := valuesOf_get v4
                          have hlt : j < l.length := by
                            rcases Nat.lt_or_ge j (valuesOf (fun k => vs[k]?) l.length).length with h' | h'
                            · omega
                            · simp [h'] at hj
                          rw [q2 j hlt] at hj
                          rw [Addr.add_lit]
                          simpa [World.cell?, v1] using hj
                        obtain ⟨q1, q2, q3⟩ := valuesOf_get v4
                        have hll : l.length = n * te.size := by omega
                        obtain ⟨cap', row, g1, g2, g3, g4, g5, g6, g7⟩ := grow_run (P := P) (E := E) (t := t) (ty := ty) (olds := valuesOf (fun k => vs[k]?) l.length) (s := some ⟨C.be bi, 0, none⟩) (n := n) (c := cap) hw ht hte
                          (fun w1 hw1 => run_firstCells_some (P := P) w1 te.size n _ n cap _ (by omega) (fun j v hj => by have := hcell j v hj; simpa [World.cell?, hw1] using this)) (by omega) hsrc (by omega) hf
                        have hW1 := g7.dead bi (by rw [hbi]; simp) (by rw [hbi]; simp)
                        have hfree : Free C ⟨S.bx.set bi .dead, S.fr⟩ w0 N w.heap.size := by
                          have hfn := hw.free_new
                          exact ⟨hfn.base, fun i' b' hb' ho' => hfn.box i' b' (get_dead hb' (by intro e'; subst e'; cases ho')).2 ho', hfn.sg, hfn.id⟩
                        have hread : Reads C ⟨S.bx.set bi .dead, S.fr⟩ (fun k => row[k]?) (l ++ xs) := by
                          refine Reads.append ((v4.mono hxD).congr fun k hk => ?_) ((hnr.mono hxD).congr fun k hk => ?_)
                          · rw [g5 k (by omega), q2 k hk]
                          · have := g6 k (by omega); rw [q1] at this; exact this
                        have hW := hW1.adopt (z := row.size) hnb hfree (fun t' l' he => by
                          cases he
                          refine ⟨row, heap_new w.drew _, ?_, rfl, hread⟩
                          rw [List.length_append, g4, hll, hxl, ← Nat.add_mul]; exact Nat.mul_le_mul_right _ g2) hat (fun l' he => by cases he) (fun l' p he => by cases he)
                        obtain ⟨s1, s2, s3, s4⟩ := newBox_spec hnb
                        refine ⟨_, _, _, g1, hxD.trans (ext_box hnb (fun l he => by cases he) _ _), .ms j 0 (n + m) (wd + xs.length) _ cap' _ (by rw [s2, if_pos rfl]) rfl g2 (fun _ _ => ⟨by simp [Conf.box], te.size, by rw [hwn, hxl, Nat.add_mul], by simp [Conf.box, g4]⟩), hW⟩
                    · cases h
                  · cases h
                · cases h
              · cases h
            · -- rows that never change
              split at h
              · cases h
              · rename_i xs' hcl
                obtain ⟨hcl1, hcl2⟩ := cleanAll_rel hcl hnr
                split at h
                · split at h
                  · rename_i hf
                    simp at h; obtain ⟨rfl, rfl⟩ := h
                    obtain rfl := nilslice_inv hx
                    obtain ⟨cap, row, g1, g2, g3, g4, _, g6, g7⟩ := grow_run (P := P) (E := E) (t := t) (ty := ty) (olds := []) (s := none) (n := 0) (c := 0) hw ht hte (fun w1 _ => by simp [Builtin.firstCells]) (by simp) hsrc (by omega) (by simpa using hf)
                    simp only [Nat.zero_add] at g1 g2
                    have hfree : Free C S w0 N w.heap.size := hw.free_new
                    have := lineage g7 (γ := S.fr.length) (cells := xs') (fr' := S.fr ++ [some (xs'.length, e)]) (sz := te.size) (heap_new w.drew _) g2 g3 g4 (by omega) (.inl (by omega)) hfree.base hfree.box (fun k _ => hfree.sg k)
                      (fun γ' x' b o n' c' _ h1 h2 => hfree.id γ' x' b o n' c' h1 h2) (by simp) (fun γ' hne => by
                        rcases Nat.lt_or_ge γ' S.fr.length with h' | h'
                        · simp [List.getElem?_append_left h']
                        · rw [List.getElem?_append_right h', List.getElem?_eq_none h']; simp; omega) (by simp) (fun l0 e0 h' => by simp at h') (by simp)
                      (fun k hk => by
                        obtain ⟨v, a1, a2, a3⟩ := hcl2 k hk
                        refine ⟨v, ?_, a2, a3⟩
                        have := g6 k (by omega)
                        simp at this
                        rw [this]; exact a1)
                    obtain ⟨t1, t2, t3⟩ := this
                    exact ⟨_, _, _, g1, t1, t3, t2⟩
                  · cases h
                · rename_i k n cells
                  simp only [Bool.and_eq_true, nat_beq] at h
                  split at h
                  · rename_i hc
                    obtain ⟨hcl0, hf⟩ := hc
                    obtain ⟨ad, cap, vs, rfl, hn, ho, hs, hcc, hfull, hsq⟩ := slice_inv hx
                    obtain ⟨olds, o1, o2, o3⟩ := olds_of (P := P) (k := k) (cap := cap) hw hcl0 hs hsq
                    -- into a new row
                    have grows : cap < n + m → ∀ γ fr', fr'[γ]? = some (some ((cells ++ xs').length, e)) → (∀ γ', γ' ≠ γ → fr'[γ']? = S.fr[γ']?) → S.fr.length ≤ fr'.length →
                        (∀ l0 e0, S.fr[γ]? = some (some (l0, e0)) → e0 = e ∧ l0 < (cells ++ xs').length) → S.fr[γ]? ≠ some none →
                        ∃ C' v w', (Builtin.append_ #[t, u] ty #[.slice (some ad) n cap, y]).run P w = .ok v w' ∧ Ext C S C' ⟨S.bx, fr'⟩ ∧ VRel C' ⟨S.bx, fr'⟩ (.slice (.id γ) (n + m) (cells ++ xs')) v ∧ WRel C' ⟨S.bx, fr'⟩ w0 N w' := by
                      intro hg γ fr' f1 f2 f3 f4 f5
                      obtain ⟨cap', row, g1, g2, g3, g4, g5, g6, g7⟩ := grow_run (P := P) (E := E) (t := t) (ty := ty) (olds := olds) (s := some ad) (n := n) (c := cap) hw ht hte o3 (by omega) hsrc hg hf
                      have hfree : Free C S w0 N w.heap.size := hw.free_new
                      have := lineage g7 (γ := γ) (cells := cells ++ xs') (fr' := fr') (sz := te.size) (heap_new w.drew _) g2 g3 g4 (by rw [List.length_append, hcl0, hcl1, hxl, Nat.add_mul]) (.inl (by omega)) hfree.base hfree.box (fun k _ => hfree.sg k)
                        (fun γ' x' b o n' c' _ h1 h2 => hfree.id γ' x' b o n' c' h1 h2) f1 f2 f3 f4 f5 (fun j hj => by
                          rw [List.length_append] at hj
                          by_cases hj1 : j < cells.length
                          · refine ⟨vs j, ?_, by simpa [hj1] using hcc j hj1, by simpa [hj1] using ho j hj1⟩
                            rw [g5 j (by omega), o2 j hj1]
                          · obtain ⟨v, a1, a2, a3⟩ := hcl2 (j - cells.length) (by omega)
                            refine ⟨v, ?_, by rw [List.getElem_append_right (by omega)]; exact a2, by rw [List.getElem_append_right (by omega)]; exact a3⟩
                            have := g6 (j - cells.length) (by omega)
                            rw [o1, show cells.length + (j - cells.length) = j by omega] at this
                            rw [this]; exact a1)
                      obtain ⟨t1, t2, t3⟩ := this
                      exact ⟨_, _, _, g1, t1, t3, t2⟩
                    split at h
                    · -- full
                      simp at h; obtain ⟨rfl, rfl⟩ := h
                      have hcap := hfull rfl
                      subst hcap
                      exact grows (by omega) S.fr.length _ (by simp) (fun γ' hne => by
                        rcases Nat.lt_or_ge γ' S.fr.length with h' | h'
                        · simp [List.getElem?_append_left h']
                        · rw [List.getElem?_append_right h', List.getElem?_eq_none h']; simp; omega) (by simp) (fun l0 e0 h' => by simp at h') (by simp)
                    · rename_i γ
                      split at h
                      · rename_i l0 e0 hγ
                        split at h
                        · rename_i hc2
                          obtain ⟨rfl, rfl, hn0⟩ := hc2
                          simp only [Bool.or_eq_true, Nat.blt_eq, nat_beq] at hn0
                          simp at h; obtain ⟨rfl, rfl⟩ := h
                          have hγl : γ < S.fr.length := by
                            rcases Nat.lt_or_ge γ S.fr.length with h' | h'
                            · exact h'
                            · simp [h'] at hγ
                          have f1 : (S.fr.set γ (some (cells.length + xs'.length, e0)))[γ]? = some (some ((cells ++ xs').length, e0)) := by simp [hγl]
                          have f2 : ∀ γ', γ' ≠ γ → (S.fr.set γ (some (cells.length + xs'.length, e0)))[γ']? = S.fr[γ']? := fun γ' hne => List.getElem?_set_ne (fun h => hne h.symm)
                          have f4 : ∀ l1 e1, S.fr[γ]? = some (some (l1, e1)) → e1 = e0 ∧ l1 < (cells ++ xs').length := by
                            intro l1 e1 h1
                            rw [hγ] at h1
                            cases h1
                            refine ⟨rfl, ?_⟩
                            rw [List.length_append, hcl1, hxl]
                            have := Nat.mul_pos hm0 hsz0
                            omega
                          have f5 : S.fr[γ]? ≠ some none := by rw [hγ]; simp
                          by_cases hroom : n + m ≤ cap
                          · -- in place
                            obtain ⟨b, n', cap'', sz', cur, q1, q2, q3, q4, q5, q6, q7, q8⟩ := hw.ids γ cells.length e0 hγ
                            have htip : C.ep γ = .slice (some ad) n cap := by
                              cases hx with
                              | clean _ _ hx => cases hx
                              | sid _ _ _ _ _ _ vs' _ _ _ _ _ htt => exact (htt _ _ hγ).2 rfl
                            rw [q1] at htip
                            cases htip
                            have hszz : sz' = te.size := by
                              rcases q6.2 with h0 | h0
                              · exact Nat.eq_of_mul_eq_mul_left h0 (q6.1.symm.trans hcl0)
                              · rcases hn0 with h1 | h1
                                · exact Nat.eq_of_mul_eq_mul_left h1 (q6.1.symm.trans hcl0)
                                · rw [h0, h1]
                            subst hszz
                            have hfit : n * te.size + news.length ≤ cur.size := by
                              rw [hnl, hxl, ← Nat.add_mul, q5]
                              exact Nat.mul_le_mul_right _ hroom
                            have hrun := append_room (P := P) w t u ty e0 i ht hi b n cap cur q2 y m news (by rw [hsz]; exact hsrc) hroom (by rw [hsz]; exact hfit)
                            rw [hsz] at hrun
                            generalize hrow : (cur.toList.take (n * te.size) ++ news ++ cur.toList.drop (n * te.size + news.length)).toArray = row at hrun
                            have hsp : ∀ k, row[k]? = if n * te.size ≤ k ∧ k < n * te.size + news.length then news[k - n * te.size]? else cur[k]? := by
                              intro k
                              rw [← hrow, List.getElem?_toArray, splice_get cur.toList news (n * te.size) k (by simpa using hfit)]
                              simp
                            have hrs : row.size = cap * te.size := by rw [← hrow, ← q5]; simp; omega
                            have hget : (w.setRow b row).heap[b]? = some (.cells row e0 (0, 0)) := setRow_heap w b cur row e0 (0, 0) q2
                            have hoth : ∀ b', b' ≠ b → (w.setRow b row).heap[b']? = w.heap[b']? := fun b' hb' => setRow_other w b b' row hb'
                            have hidb : ∀ γ' x b' o n c, γ' ≠ γ → S.fr[γ']? = some (some x) → C.ep γ' = .slice (some ⟨b', o, none⟩) n c → b' ≠ b :=
                              fun γ' x b' o n c hne h1 h2 he => hne (hw.idinj γ' γ x _ b' b o 0 n _ c _ h1 hγ h2 q1 he)
                            have hW1 : WRel C S w0 N (w.setRow b row) := by
                              refine ⟨?_, ?_, hw.ro, ?_, hw.inj, hw.sep, ?_, hw.idinj, by simpa using hw.size, ?_, hw.ownN, hw.idN, hw.known, hw.hole, hw.still⟩
                              · intro b' k v hv
                                by_cases hb' : b' = b
                                · subst hb'
                                  have hk : k < cells.length := by
                                    rcases Nat.lt_or_ge k cells.length with h' | h'
                                    · exact h'
                                    · rw [q7 k h'] at hv; cases hv
                                  have := hw.sg _ _ _ hv
                                  simp only [World.cell?, q2] at this
                                  simp only [World.cell?, hget]
                                  have hrk : row[k]? = cur[k]? := by
                                    rw [hsp k]
                                    exact if_neg (by omega)
                                  simpa [hrk] using this
                                · exact (cell_heap (hoth b' hb')).trans (hw.sg _ _ _ hv)
                              · intro j t' l hj
                                obtain ⟨vs', v1, v2⟩ := hw.cells j t' l hj
                                exact ⟨vs', (hoth _ (q8 j _ hj rfl)).trans v1, v2⟩
                              · intro j l pos hj
                                obtain ⟨s', v1, v2⟩ := hw.iter j l pos hj
                                exact ⟨s', (hoth _ (q8 j _ hj rfl)).trans v1, v2⟩
                              · intro γ' len e' hγ'
                                by_cases hne : γ' = γ
                                · subst hne
                                  rw [hγ] at hγ'
                                  cases hγ'
                                  exact ⟨b, n, cap, te.size, row, q1, hget, q3, q4, hrs, q6, q7, q8⟩
                                · obtain ⟨b1, n1, c1, z1, cur1, a1, a2, a3⟩ := hw.ids γ' len e' hγ'
                                  exact ⟨b1, n1, c1, z1, cur1, a1, (hoth _ (hidb γ' _ b1 0 n1 c1 hne hγ' a1)).trans a2, a3⟩
                              · intro b' hb' hN
                                refine (hoth b' (fun he => ?_)).trans (hw.keep b' hb' hN)
                                subst he
                                rcases hw.idN γ _ b' 0 n cap hγ q1 with h' | h'
                                · exact hN h'
                                · omega
                            have hb0 := hw.idN γ _ b 0 n cap hγ q1
                            have := lineage hW1 (γ := γ) (cells := cells ++ xs') (fr' := S.fr.set γ (some (cells.length + xs'.length, e0))) (sz := te.size) (n := n + m) (cap := cap) hget hroom q4 hrs (by rw [List.length_append, hcl0, hcl1, hxl, Nat.add_mul]) (.inl (by omega))
                              hb0 q8 (fun k hk => q7 k (by rw [List.length_append] at hk; omega)) hidb f1 f2 (by simp) f4 f5 (fun j hj => by
                                rw [List.length_append] at hj
                                by_cases hj1 : j < cells.length
                                · refine ⟨vs j, ?_, by simpa [hj1] using hcc j hj1, by simpa [hj1] using ho j hj1⟩
                                  rw [hsp, if_neg (by omega)]
                                  have := hw.sg _ _ _ (hs j hj1)
                                  simpa [World.cell?, q2] using this
                                · obtain ⟨v, a1, a2, a3⟩ := hcl2 (j - cells.length) (by omega)
                                  refine ⟨v, ?_, by rw [List.getElem_append_right (by omega)]; exact a2, by rw [List.getElem_append_right (by omega)]; exact a3⟩
                                  rw [hsp, if_pos (by omega), ← hcl0]; exact a1)
                            obtain ⟨t1, t2, t3⟩ := this
                            exact ⟨_, _, _, hrun, t1, t3, t2⟩
                          · exact grows (by omega) γ _ f1 f2 (by simp) f4 f5
                        · cases h
                      · cases h
                    · cases h
                  · cases h
                · cases h

end
end Go.Am

/- Operations that make or write memory. No condition. -/
namespace Go.Am

section
variable {P : Program} {C : Conf} {S : St} {w0 : Base} {w : World} {N : Nat → Prop}

theorem ext_set {i : Nat} {b b' : Box} (hb : S.bx[i]? = some b) (hna : b ≠ .away) (hh : b'.isHole = b.isHole) (hl : b'.live = true → b.live = true) (hnr : ∀ l, b' ≠ .ro l) : Ext C S C ⟨S.bx.set i b', S.fr⟩ := by
  refine ⟨SgLe.refl _, fun j x hx hx' => ?_, fun γ hγ => ⟨hγ, fun len e he => ⟨len, he, Nat.le_refl _, fun _ => rfl⟩⟩, by simp, fun j hj => by
    have : i ≠ j := fun e => hna (by subst e; rw [hb] at hj; exact Option.some.inj hj)
    simp [List.getElem?_set_ne this, hj], fun j l hj => by
    by_cases e : i = j
    · subst e
      rcases Nat.lt_or_ge i S.bx.length with h' | h'
      · simp [h'] at hj; exact absurd hj (hnr l)
      · simp [h'] at hj
    · simpa [List.getElem?_set_ne e] using hj⟩
  by_cases e : i = j
  · subst e
    rw [hb] at hx; cases hx
    have hlt : i < S.bx.length := by
      rcases Nat.lt_or_ge i S.bx.length with h' | h'
      · exact h'
      · simp [h'] at hb
    exact ⟨b', by simp [hlt], by rw [hh]; exact hx', fun h => ⟨hl h, rfl, rfl⟩⟩
  · exact ⟨x, by simp [List.getElem?_set_ne e, hx], hx', fun hl => ⟨hl, rfl, rfl⟩⟩

theorem get_set {i j : Nat} {b' y : Box} (h : (S.bx.set i b')[j]? = some y) : (j = i ∧ y = b') ∨ (j ≠ i ∧ S.bx[j]? = some y) := by
  by_cases e : i = j
  · subst e
    rcases Nat.lt_or_ge i S.bx.length with h' | h'
    · simp [h'] at h; exact .inl ⟨rfl, h.symm⟩
    · simp [h'] at h
  · exact .inr ⟨fun h => e h.symm, by simpa [List.getElem?_set_ne e] using h⟩

/-- A box that one owns is written anew. -/
theorem WRel.rewrite (h : WRel C S w0 N w) {i : Nat} {b b' : Box} (hb : S.bx[i]? = some b) (ho : b.own = true) (ho' : b'.own = true) {w' : World} (hs : w.heap.size ≤ w'.heap.size)
    (hh : ∀ k, k ≠ C.be i → k < w.heap.size → w'.heap[k]? = w.heap[k]?)
    (hc : ∀ t l, b' = .cells t l → ∃ vs : Array Value, w'.heap[C.be i]? = some (.cells vs t (0, 0)) ∧ l.length ≤ vs.size ∧ vs.size = C.sz i ∧ Reads C S (fun k => vs[k]?) l)
    (hi : ∀ l pos, b' = .iter l pos → ∃ s, w'.heap[C.be i]? = some (.stringIter s pos) ∧ bytesL s = l) (hst : Still w w' := by exact ⟨rfl, rfl⟩) : Ext C S C ⟨S.bx.set i b', S.fr⟩ ∧ WRel C ⟨S.bx.set i b', S.fr⟩ w0 N w' := by
  have x : Ext C S C ⟨S.bx.set i b', S.fr⟩ := ext_set hb (by intro e; subst e; cases ho) (by cases b <;> cases b' <;> first | rfl | (simp [Box.own] at ho; done) | (simp [Box.own] at ho'; done)) (fun _ => by cases b <;> first | rfl | (simp [Box.own] at ho; done)) (fun l he => by subst he; cases ho')
  have hnr : ∀ l, b' ≠ .ro l := fun l he => by subst he; cases ho'
  refine ⟨x, ?_, ?_, ?_, ?_, ?_, ?_, ?_, h.idinj, Nat.le_trans h.size hs, ?_, ?_, h.idN, h.known, fun j hj => by
    have hj' := h.hole j hj
    have : i ≠ j := fun e => by subst e; rw [hb] at hj'; cases hj'; cases ho
    simp [List.getElem?_set_ne this, hj'], h.still.trans hst⟩
  · intro b1 k v hv
    have hne : b1 ≠ C.be i := fun e => by subst e; rw [h.sep i b hb ho] at hv; cases hv
    exact (cell_heap (hh b1 hne (cell_lt (h.sg _ _ _ hv)))).trans (h.sg _ _ _ hv)
  · intro j t l hj
    rcases get_set hj with ⟨rfl, he⟩ | ⟨hne, hj'⟩
    · obtain ⟨vs, g1, g2, g3, g4⟩ := hc t l he.symm
      exact ⟨vs, g1, g2, g3, g4.mono x⟩
    · obtain ⟨vs, g1, g2, g3, g4⟩ := h.cells j t l hj'
      refine ⟨vs, (hh _ (fun e => hne (h.inj j i _ b hj' hb rfl ho e)) (heap_lt g1)).trans g1, g2, g3, g4.mono x⟩
  · intro j l hj
    rcases get_set hj with ⟨rfl, he⟩ | ⟨hne, hj'⟩
    · exact absurd he.symm (hnr l)
    · obtain ⟨g1, vs, t, fz, g2, g3, g4, g5⟩ := h.ro j l hj'
      exact ⟨g1, vs, t, fz, g2, g3, g4, g5.mono x⟩
  · intro j l pos hj
    rcases get_set hj with ⟨rfl, he⟩ | ⟨hne, hj'⟩
    · exact hi l pos he.symm
    · obtain ⟨s, g1, g2⟩ := h.iter j l pos hj'
      exact ⟨s, (hh _ (fun e => hne (h.inj j i _ b hj' hb rfl ho e)) (heap_lt g1)).trans g1, g2⟩
  · intro j k y z hj hk hy hz he
    rcases get_set hj with ⟨rfl, rfl⟩ | ⟨hne, hj'⟩ <;> rcases get_set hk with ⟨rfl, rfl⟩ | ⟨hne', hk'⟩
    · rfl
    · exact h.inj _ _ _ _ hb hk' ho hz he
    · exact h.inj _ _ _ _ hj' hb hy ho he
    · exact h.inj _ _ _ _ hj' hk' hy hz he
  · intro j y hj hy k
    rcases get_set hj with ⟨rfl, rfl⟩ | ⟨hne, hj'⟩
    · exact h.sep _ _ hb ho k
    · exact h.sep _ _ hj' hy k
  · intro γ len e hγ
    obtain ⟨b1, n, cap, sz, cur, g1, g2, g3, g4, g5, g6, g7, g8⟩ := h.ids γ len e hγ
    refine ⟨b1, n, cap, sz, cur, g1, (hh _ (fun e => g8 i b hb ho e.symm) (heap_lt g2)).trans g2, g3, g4, g5, g6, g7, fun j y hj hy => ?_⟩
    rcases get_set hj with ⟨rfl, rfl⟩ | ⟨hne, hj'⟩
    · exact g8 _ b hb ho
    · exact g8 j y hj' hy
  · intro b1 hb1 hN
    refine (hh b1 (fun e => ?_) (Nat.lt_of_lt_of_le hb1 h.size)).trans (h.keep b1 hb1 hN)
    subst e
    rcases h.ownN i b hb ho with h' | h'
    · exact hN h'
    · omega
  · intro j y hj hy
    rcases get_set hj with ⟨rfl, rfl⟩ | ⟨hne, hj'⟩
    · exact h.ownN _ b hb ho
    · exact h.ownN j y hj' hy

theorem write_spec {bx bx' : List Box} {i off : Nat} {vs : List PV} (h : write bx i off vs = some bx') : ∃ t l, bx[i]? = some (.cells t l) ∧ off + vs.length ≤ l.length ∧ bx' = bx.set i (.cells t (splice l off vs)) := by
  unfold write at h
  split at h
  · rename_i t l hb
    simp only [cond_eq_ite, Nat.ble_eq] at h
    split at h
    · rename_i hle; simp at h; exact ⟨t, l, hb, hle, h.symm⟩
    · cases h
  · cases h

theorem store_rel {E : Env} (hE : EOk P E) (hw : WRel C S w0 N w) {t : Nat} {ti : TI} (ht : TIok P t ti) {i off : Nat} {v : PV} {x y : Value} (hx : VRel C S (.ptr i off) x) (hy : VRel C S v y)
    (hf : v.flat = true) (hsz : v.cells.length = ti.size) {bx : List Box} (h : write S.bx i off v.cells = some bx) :
    ∃ w', (Instr.storeAt t x y).run P w = .ok () w' ∧ Ext C S C ⟨bx, S.fr⟩ ∧ WRel C ⟨bx, S.fr⟩ w0 N w' := by
  obtain ⟨bt, l, hb, hle, rfl⟩ := write_spec h
  obtain ⟨hv1, hv2⟩ := hy.reads hf
  cases hx with
  | clean _ _ hx => cases hx
  | ptr _ _ a b hi hh ha =>
    rw [hb] at hi; cases hi
    obtain rfl := ha rfl
    obtain ⟨vs, g1, g2, g3, g4⟩ := hw.cells i bt l hb
    have hone : ∀ u ∈ y.cells.toList, u.oneCell' = true := by
      intro u hu
      obtain ⟨k, hk, he⟩ := List.mem_iff_getElem.1 hu
      have hk' : k < y.cells.size := by simpa using hk
      obtain ⟨u', a1, a2, a3⟩ := hv2 k (by omega)
      simp at a1
      have : y.cells[k]? = some u := by simp [hk']; simpa using he
      rw [this] at a1; cases a1
      exact a2.one a3
    have hrun := run_storeCells_at P (C.be i) off bt y.cells.toList 0 vs w g1 (by simp; omega) hone
    simp only [Nat.add_zero] at hrun
    generalize hrow : (vs.toList.take off ++ y.cells.toList ++ vs.toList.drop (off + y.cells.toList.length)).toArray = row at hrun
    have hfit : off + y.cells.toList.length ≤ vs.toList.length := by simp; omega
    have hsp : ∀ k, row[k]? = if off ≤ k ∧ k < off + y.cells.size then y.cells[k - off]? else vs[k]? := by
      intro k
      rw [← hrow, List.getElem?_toArray, splice_get vs.toList y.cells.toList off k hfit]
      simp
    have hrs : row.size = vs.size := by rw [← hrow]; simp; omega
    have hget : (w.setRow (C.be i) row).heap[C.be i]? = some (.cells row bt (0, 0)) := setRow_heap w (C.be i) vs row bt (0, 0) g1
    have hlen : (splice l off v.cells).length = l.length := by simp [splice]; omega
    obtain ⟨x, W⟩ := hw.rewrite (b' := .cells bt (splice l off v.cells)) hb rfl rfl (w' := w.setRow (C.be i) row) (by simp) (fun k hk _ => setRow_other w _ k row hk) (fun t' l' he => by
      cases he
      refine ⟨row, hget, by omega, by omega, fun k hk => ?_⟩
      rw [hlen] at hk
      have hspl := splice_get l v.cells off k hle
      by_cases e : off ≤ k ∧ k < off + v.cells.length
      · obtain ⟨u, a1, a2, a3⟩ := hv2 (k - off) (by omega)
        simp only at a1
        rw [if_pos e] at hspl
        have hk2 : k - off < v.cells.length := by omega
        have hg : (splice l off v.cells)[k]'(by rw [hlen]; exact hk) = v.cells[k - off] := by
          have : (splice l off v.cells)[k]? = some (v.cells[k - off]) := by rw [splice, hspl]; simp [hk2]
          simpa [hlen, hk] using this
        refine ⟨u, ?_, by rw [hg]; exact a2, by rw [hg]; exact a3⟩
        show row[k]? = some u
        rw [hsp k, if_pos (by omega)]; exact a1
      · obtain ⟨u, a1, a2, a3⟩ := g4 k hk
        simp only at a1
        rw [if_neg e] at hspl
        have hg : (splice l off v.cells)[k]'(by rw [hlen]; exact hk) = l[k] := by
          have : (splice l off v.cells)[k]? = some (l[k]) := by rw [splice, hspl]; simp [hk]
          simpa [hlen, hk] using this
        refine ⟨u, ?_, by rw [hg]; exact a2, by rw [hg]; exact a3⟩
        show row[k]? = some u
        rw [hsp k, if_neg (by omega)]; exact a1) (fun l' p he => by cases he)
    refine ⟨_, ?_, x, W⟩
    have hsize := ht.sizeOf w
    simp [Instr.storeAt, Instr.sureAddr, storeVar, hsize, hv1, hsz, hrun]

theorem repl_get : ∀ (n : Nat) (z : List PV) (k : Nat), k < n * z.length → (repl n z)[k]? = z[k % z.length]?
  | 0, z, k, h => by simp at h
  | n + 1, z, k, h => by
    rw [repl]
    by_cases e : k < z.length
    · rw [List.getElem?_append_left e, Nat.mod_eq_of_lt e]
    · have h' : k < n * z.length + z.length := by rw [← Nat.succ_mul]; exact h
      rw [List.getElem?_append_right (by omega), repl_get n z (k - z.length) (by omega), ← Nat.mod_eq_sub_mod (by omega)]

theorem repl_length (n : Nat) (z : List PV) : (repl n z).length = n * z.length := by
  induction n with
  | zero => simp [repl]
  | succ n ih => rw [repl, List.length_append, ih, Nat.add_mul]; omega

/-- A row of zero values. -/
theorem zeros_reads {z : Value} {zs : List PV} (h : ofCells z.cells.toList = some zs) (n : Nat) :
    ((Array.range (n * zs.length)).map (z.cells[· % z.cells.size]!)).size = (repl n zs).length ∧ Reads C S (fun k => ((Array.range (n * zs.length)).map (z.cells[· % z.cells.size]!))[k]?) (repl n zs) := by
  obtain ⟨hl, hr⟩ := ofCells_reads (C := C) (S := S) h
  refine ⟨by simp [repl_length], fun k hk => ?_⟩
  rw [repl_length] at hk
  have hpos : 0 < zs.length := by
    rcases Nat.eq_zero_or_pos zs.length with h0 | h0
    · rw [h0] at hk; omega
    · exact h0
  have hm : k % zs.length < zs.length := Nat.mod_lt _ hpos
  obtain ⟨v, a1, a2, a3⟩ := hr (k % zs.length) hm
  simp only at a1
  have hg : (repl n zs)[k]'(by rw [repl_length]; exact hk) = zs[k % zs.length] := by
    have := repl_get n zs k hk
    have hk' : k < (repl n zs).length := by rw [repl_length]; exact hk
    simpa [hk', hm] using this
  refine ⟨v, ?_, by rw [hg]; exact a2, by rw [hg]; exact a3⟩
  have hm' : k % z.cells.size < z.cells.size := by rw [← hl]; exact hm
  simp [hk]
  rw [← hl] at hm' ⊢
  rw [getElem!_pos z.cells (k % zs.length) (by rw [← hl]; exact hm)]
  rw [Array.getElem?_eq_getElem (by rw [← hl]; exact hm)] at a1
  simpa using a1

end
end Go.Am

/- Each operation that is no call of a Go function: what the abstract machine says of it is so. No condition. -/
namespace Go.Am

section
variable {P : Program} {C : Conf} {S : St} {w0 : Base} {w : World} {N : Nat → Prop}

/-- From a value that a run of 'Sem Value' comes to. -/
theorem Ran.of {s : Sem Value} {p : PV} {S' : St} (h : ∃ C' u w', s.run P w = .ok u w' ∧ Ext C S C' S' ∧ VRel C' S' p u ∧ WRel C' S' w0 N w') :
    Ran C S w0 N ((do pure (.value (← s)) : Sem Next).run P w) p S' :=
  let ⟨C', u, w', h1, h2, h3, h4⟩ := h
  ⟨C', u, w', .inl (by simp [h1]), h2, h3, h4⟩

theorem withS_spec {o : Option PV} {p : PV} {S' : St} (h : withS S o = some (p, S')) : o = some p ∧ S' = S := by
  cases o with
  | none => simp [withS] at h
  | some v => simp [withS] at h; exact ⟨by rw [h.1], h.2.symm⟩

theorem concrete_of {t : Nat} {ti : TI} (ht : TIok P t ti) (hk : ∀ n, ti.kind ≠ .iface n) : P.concrete t = true := by
  have h := ht.kind
  unfold Program.concrete
  cases hkk : ti.kind <;> simp only [hkk] at h hk
  case iface n => exact absurd rfl (hk n)
  case struct fs => obtain ⟨F, h, _⟩ := h; rw [h]
  case func => obtain ⟨_, _, _, h⟩ := h; rw [h]
  case tuple => obtain ⟨_, h⟩ := h; rw [h]
  all_goals rw [h]

theorem crel_list {sg : Nat → Nat → Option Value} {l : List PV} {vs : Array Value} (h : ∀ i (hi : i < l.length), ∃ v, vs[i]? = some v ∧ CRel sg l[i] v ∧ l[i].one = true) :
    ∃ f : Nat → Value, (∀ i (hi : i < l.length), l[i].one = true) ∧ (∀ i, i < l.length → vs[i]? = some (f i)) ∧ (∀ i (hi : i < l.length), CRel sg l[i] (f i)) := by
  refine ⟨fun i => vs.getD i Go.undef, fun i hi => (h i hi).choose_spec.2.2, fun i hi => ?_, fun i hi => ?_⟩
  · obtain ⟨v, h1, _⟩ := h i hi
    simp [Array.getD_eq_getD_getElem?, h1]
  · obtain ⟨v, h1, h2, _⟩ := h i hi
    simpa [Array.getD_eq_getD_getElem?, h1] using h2

theorem buildSlice_rel {E : Env} (hE : EOk P E) (hw : WRel C S w0 N w) {hp : Bool} {at_ : Option Nat} (hat : ∀ k, at_ = some k → ¬ w0.hl k) {ev : Operand → Option PV} {ρ : Operand → Value} (hev : ∀ x p, ev x = some p → VRel C S p (ρ x))
    {t n e : Nat} {te : TI} (he : elemE E t = some (e, te)) {parts : Array (Nat × Operand)} {ps : List (Nat × PV)} (hps : evParts ev parts.toList = some ps) (h1 : n * te.size ≤ 65536) (h0 : 0 < n * te.size)
    {cs : List PV} (hf : fillL (fun i => some (i * te.size, te.size)) (repl n te.zero) ps = some cs) {r : PV} {S' : St}
    (h : (hp = true ∧ ∃ i, newBox at_ S (.cells e cs) = some (i, S') ∧ r = .ms i 0 n cs.length) ∨ (hp = false ∧ S' = S ∧ ∃ cs', mapO clean cs = some cs' ∧ r = .slice .full n cs')) :
    ∃ C' u w', (Instr.buildSlice t n (parts.map fun x => (x.1, ρ x.2))).run P w = .ok u w' ∧ Ext C S C' S' ∧ VRel C' S' r u ∧ WRel C' S' w0 N w' := by
  obtain ⟨ht, hte⟩ := elemE_spec hE he
  obtain ⟨i, z, hi, hsz, _, hz, hoc, _, hzl, _⟩ := hte.info
  obtain ⟨q1, q2⟩ := evParts_rel hev hps
  obtain ⟨z1, z2⟩ := zeros_reads (C := C) (S := S) hoc n
  rw [hzl] at z1 z2
  have hlist : (parts.map fun x => (x.1, ρ x.2)).toList = parts.toList.map fun x => (x.1, ρ x.2) := by simp
  obtain ⟨cs', g1, g2, g3, g4⟩ := fill_rel (pl' := fun i => some (i * te.size, te.size)) (fun i x hx => hx) ps (parts.toList.map fun x => (x.1, ρ x.2)) (repl n te.zero) cs
    ((Array.range (n * te.size)).map (z.cells[· % z.cells.size]!)) (by simp [q1]) q2 z1 z2 hf
  have hcl : cs.length = n * te.size := by rw [g3, repl_length, hzl]
  have hrun := run_buildSlice w t e n (parts.map fun x => (x.1, ρ x.2)) cs' i z ht hi hz (by rw [hsz]; omega) (by rw [hsz]; omega) (by rw [hlist, hsz]; exact g1)
  rcases h with ⟨_, j, hnb, rfl⟩ | ⟨_, hSS, cs2, hcl2, rfl⟩
  · obtain ⟨x1, _, x3, x4⟩ := new_cells hw hat hnb g2 g4
    exact ⟨_, _, _, hrun, x1, x3 n te.size hcl, x4⟩
  · subst hSS
    obtain ⟨c1, c2⟩ := cleanAll_rel hcl2 g4
    have hW := (hw.alloc (.cells cs' e)).fix (g := w.heap.size) (fz := (0, 0)) hw.free_new (heap_new w _) cs2.length
    have hx := ext_fix (C := C) (S := S') hw.free_new.sg cs' cs2.length
    obtain ⟨f, f1, f2, f3⟩ := crel_list (fun i hi => c2 i hi)
    refine ⟨_, _, _, hrun, hx, .clean _ _ (.full n cs2 w.heap.size 0 f f1 (fun i hi => ?_) (fun i hi => (f3 i hi).mono (sg_fix hw.free_new.sg cs' cs2.length))), hW⟩
    simp only [Conf.fix, Nat.zero_add]
    rw [if_pos ⟨trivial, hi⟩]
    exact f2 i hi

theorem iface_rel {E : Env} (hw : WRel C S w0 N w) {t : Nat} {ti : TI} (ht : TIok P t ti) (hk : ∀ n, ti.kind ≠ .iface n) {i : Nat} {bt : Nat} {l c : List PV} (hb : S.bx[i]? = some (.cells bt l))
    (hc : mapO clean l = some c) {x : Value} (hx : VRel C S (.ptr i 0) x) :
    ∃ C' u w', (Instr.makeInterface t x).run P w = .ok u w' ∧ Ext C S C' ⟨S.bx.set i .dead, S.fr⟩ ∧ VRel C' ⟨S.bx.set i .dead, S.fr⟩ (.iface t (.imm 0 c)) u ∧ WRel C' ⟨S.bx.set i .dead, S.fr⟩ w0 N w' := by
  cases hx with
  | clean _ _ hx => cases hx
  | ptr _ _ a b hi hh ha =>
    rw [hb] at hi; cases hi
    obtain rfl := ha rfl
    obtain ⟨vs, g1, g2, g3, g4⟩ := hw.cells i bt l hb
    obtain ⟨c1, c2⟩ := cleanAll_rel hc g4
    have hfree := hw.free_dead hb rfl
    have hW := (hw.dead i (by rw [hb]; simp) (by rw [hb]; simp)).fix hfree g1 c.length
    have hx := (ext_dead (C := C) (S := S) (i := i) (by rw [hb]; simp)).trans (ext_fix (C := C) (S := ⟨S.bx.set i .dead, S.fr⟩) hfree.sg vs c.length)
    obtain ⟨f, f1, f2, f3⟩ := crel_list (fun i hi => c2 i hi)
    refine ⟨_, .iface t (.pointer (some ⟨C.be i, 0, none⟩)), w, run_makeInterface w t _ (concrete_of ht hk), hx, .clean _ _ (.iface t _ _ ?_), hW⟩
    refine .imm 0 c (C.be i) 0 f f1 (fun j hj => ?_) (fun j hj => (f3 j hj).mono (sg_fix hfree.sg vs c.length))
    simp only [Conf.fix, Nat.zero_add]
    rw [if_pos ⟨trivial, hj⟩]
    exact f2 j hj

theorem newIter (hw : WRel C S w0 N w) {at_ : Option Nat} (hat : ∀ k, at_ = some k → ¬ w0.hl k) {i : Nat} {s : ByteArray} {S' : St} (hn : newBox at_ S (.iter (bytesL s) 0) = some (i, S')) :
    Ext C S (C.box i w.heap.size 0) S' ∧ VRel (C.box i w.heap.size 0) S' (.ptr i 0) (.pointer (some ⟨w.heap.size, 0, none⟩)) ∧ WRel (C.box i w.heap.size 0) S' w0 N (w.alloc (.stringIter s 0)) := by
  obtain ⟨h1, h2, h3, h4⟩ := newBox_spec hn
  have hb : S'.bx[i]? = some (.iter (bytesL s) 0) := by rw [h2, if_pos rfl]
  refine ⟨ext_box hn (fun l he => by cases he) _ _, .ptr i 0 _ _ hb rfl (fun _ => by simp [Conf.box]), ?_⟩
  exact (hw.alloc _).adopt hn hw.free_new (fun t' l' he => by cases he) hat (fun l' he => by cases he) (fun l' p he => by cases he; exact ⟨s, heap_new w _, rfl⟩)

theorem bytesL_back (s : ByteArray) : (⟨((bytesL s).map Nat.toUInt8).toArray⟩ : ByteArray) = s := by
  cases s with
  | mk d =>
    have : ((bytesL ⟨d⟩).map Nat.toUInt8) = d.toList := by
      simp only [bytesL, List.map_map]
      conv => rhs; rw [← List.map_id d.toList]
      apply List.map_congr_left
      intro b _
      simp
    rw [this]

theorem next_rel (hw : WRel C S w0 N w) {i pos : Nat} {l : List Nat} (hb : S.bx[i]? = some (.iter l pos)) {x : Value} (hx : VRel C S (.ptr i 0) x) {ty : TypeId} {r : PV} {S' : St}
    (h : (pos < l.length ∧ r = .tup [.bool true, .int .i64 (.ofNat pos), .int .i32 (.ofNat (Utf8.decode ⟨(l.map Nat.toUInt8).toArray⟩ pos).1)] ∧ S' = ⟨S.bx.set i (.iter l (pos + (Utf8.decode ⟨(l.map Nat.toUInt8).toArray⟩ pos).2)), S.fr⟩) ∨
      (¬ pos < l.length ∧ r = .tup [.bool false] ∧ S' = S)) :
    ∃ C' u w', (Instr.next x true ty).run P w = .ok u w' ∧ Ext C S C' S' ∧ VRel C' S' r u ∧ WRel C' S' w0 N w' := by
  cases hx with
  | clean _ _ hx => cases hx
  | ptr _ _ a b hi hh ha =>
    rw [hb] at hi; cases hi
    obtain rfl := ha rfl
    obtain ⟨s, g1, rfl⟩ := hw.iter i l pos hb
    have hsl : (bytesL s).length = s.size := by simp [bytesL]
    rcases h with ⟨h1, rfl, rfl⟩ | ⟨h1, rfl, rfl⟩
    · rw [hsl] at h1
      rw [bytesL_back]
      obtain ⟨x, W⟩ := hw.rewrite (b' := .iter (bytesL s) (pos + (Utf8.decode s pos).2)) hb rfl rfl (w' := { w with heap := w.heap.setIfInBounds (C.be i) (.stringIter s (pos + (Utf8.decode s pos).2)) }) (by simp)
        (fun k hk _ => by simp [Array.getElem?_setIfInBounds_ne (fun e => hk e.symm)]) (fun t' l' he => by cases he) (fun l' p he => by
          cases he
          have := heap_lt g1
          exact ⟨s, by simp [this], rfl⟩)
      refine ⟨C, .tuple #[.bool true, goInt pos, .int .i32 (Utf8.decode s pos).1], _, ?_, x, ?_, W⟩
      · simp [Instr.next, getObj, setObj, Sem.run, Sem.run_bind, g1, h1]
      · refine .clean _ _ (.tup _ _ (fun k => if k = 0 then .bool true else if k = 1 then .int .i64 pos else .int .i32 (Utf8.decode s pos).1) rfl (fun k hk => ?_) (fun k hk => ?_))
        · simp at hk
          match k, hk with
          | 0, _ => rfl
          | 1, _ => rfl
          | 2, _ => rfl
        · simp at hk
          match k, hk with
          | 0, _ => exact .bool _
          | 1, _ => exact .int _ _
          | 2, _ => exact .int _ _
    · rw [hsl] at h1
      refine ⟨C, .tuple #[.bool false], w, ?_, Ext.refl _ _, .clean _ _ (.tup _ _ (fun _ => .bool false) rfl (fun k hk => ?_) (fun k hk => ?_)), hw⟩
      · simp [Instr.next, getObj, Sem.run, Sem.run_bind, g1, h1]
      · simp at hk; subst hk; rfl
      · simp at hk; subst hk; exact .bool _

end
end Go.Am

/- Each operation that is no call of a Go function, put together. No condition. -/
namespace Go.Am

section
variable {P : Program} {C : Conf} {S : St} {w0 : Base} {w : World} {N : Nat → Prop}

theorem Ran.pureValue (hw : WRel C S w0 N w) {u : Value} {p : PV} (hv : VRel C S p u) : Ran C S w0 N ((pure (.value u) : Sem Next).run P w) p S :=
  ⟨C, u, w, .inl (by simp), Ext.refl _ _, hv, hw⟩

theorem Ran.quiet' (hw : WRel C S w0 N w) {s : Sem Value} {p q : PV} {S' : St} {o : Option PV} (ho : withS S o = some (p, S')) (hr : o = some p → ∃ u, s.run P w = .ok u w ∧ VRel C S p u) (_ : q = q) :
    Ran C S w0 N ((do pure (.value (← s)) : Sem Next).run P w) p S' := by
  obtain ⟨h1, rfl⟩ := withS_spec ho
  obtain ⟨u, h2, h3⟩ := hr h1
  exact Ran.quiet hw h2 h3

theorem list1 {α : Type} {a : Array α} {x : α} (h : a.toList = [x]) : a = #[x] := by
  rw [← Array.toArray_toList (xs := a), h]

theorem list2 {α : Type} {a : Array α} {x y : α} (h : a.toList = [x, y]) : a = #[x, y] := by
  rw [← Array.toArray_toList (xs := a), h]

theorem builtin_ran {E : Env} (hE : EOk P E) (hw : WRel C S w0 N w) {hp : Bool} {at_ : Option Nat} (hat : ∀ k, at_ = some k → ¬ w0.hl k) {b : Builtin} {argT : Array Nat} {ps : List PV} {vs : Array Value} {r : PV} {S' : St}
    (hl : ps.length = vs.size) (hv : ∀ i (h : i < ps.length) (h' : i < vs.size), VRel C S ps[i] vs[i]) {ty : Nat} {cs : Array Bool}
    (h : builtinRun E hp at_ S b argT.toList ps = some (r, S')) : Ran C S w0 N ((Go.builtin b argT ty cs vs).run P w) r S' := by
  unfold builtinRun at h
  split at h
  · rename_i t u s x hT
    have := list2 hT; subst this
    simp only [cond_eq_ite] at h
    split at h
    · rename_i hu
      have hvs : vs = #[vs[0]'(by simp at hl; omega), vs[1]'(by simp at hl; omega)] := by
        apply Array.ext
        · simp at hl; simp [← hl]
        · intro i h1 h2
          match i, h2 with
          | 0, _ => rfl
          | 1, _ => rfl
      rw [hvs]
      obtain ⟨C', v, w', h1, h2, h3, h4⟩ := append_rel (ty := ty) hE hw hat hu (hv 0 (by simp) (by simp at hl; omega)) (hv 1 (by simp) (by simp at hl; omega)) h
      exact Ran.of ⟨C', v, w', h1, h2, h3, h4⟩
    · cases h
  · rename_i t x hT
    have := list1 hT; subst this
    split at h
    · rename_i v hv'
      simp at h; obtain ⟨rfl, rfl⟩ := h
      have hvs : vs = #[vs[0]'(by simp at hl; omega)] := by
        apply Array.ext
        · simp at hl; simp [← hl]
        · intro i h1 h2
          match i, h2 with
          | 0, _ => rfl
      rw [hvs]
      obtain ⟨u, h1, h2⟩ := len_rel (ty := ty) hE (hv 0 (by simp) (by simp at hl; omega)) hv'
      exact Ran.quiet hw h1 h2
    · cases h
  case h_5 => cases h
  all_goals
    rename_i k a ps
    split at h
    · rename_i v hv'
      simp at h; obtain ⟨rfl, rfl⟩ := h
      have h0 : vs[0]'(by simp at hl; omega) = .int k a := int_inv (hv 0 (by simp) (by simp at hl; omega))
      have hvl : vs.toList = .int k a :: vs.toList.tail := by
        have : vs.toList ≠ [] := by intro e; have := congrArg List.length e; simp at this; simp [this] at hl
        obtain ⟨y, ys, hy⟩ := List.exists_cons_of_ne_nil this
        have : vs[0]'(by simp at hl; omega) = y := by simp [← Array.getElem_toList, hy]
        rw [hy]; simp [← this, h0]
      obtain ⟨u, h1, h2⟩ := minmax_rel (C := C) (S := S) (P := P) (w := w) _ ps k a _ vs.toList.tail (by simp at hl ⊢; omega) (fun i h1 h2 => by
        have := hv (i + 1) (by simp; omega) (by simp at h2; omega)
        simpa using this) hv'
      refine Ran.quiet hw ?_ h2
      simp only [Builtin.max_, Builtin.min_]
      rw [hvl]
      exact h1
    · cases h

theorem newVar_run (t : TypeId) (v : Value) : (newVar t v).run P w = .ok ⟨w.heap.size, 0, none⟩ (w.alloc (.cells v.cells t)) := by
  simp [newVar, newRow, newObj, Sem.run, Sem.run_bind]

/-- Is it a call of a Go function (now, or at the end)? -/
def goCall (o : Oper) : Bool :=
  match o.op with
  | .defer _ => true
  | .call c => (match c.callee with | .value _ => true | _ => false)
  | _ => false

theorem op_ran {E : Env} (hE : EOk P E) (hw : WRel C S w0 N w) {cf : CallF} {hp : Bool} {at_ : Option Nat} (hat : ∀ k, at_ = some k → ¬ w0.hl k) {ev : Operand → Option PV} {ρ : Operand → Value}
    (hev : ∀ x p, ev x = some p → VRel C S p (ρ x)) {o : Oper} (hng : goCall o = false) {r : PV} {S' : St} (h : opRun E cf hp at_ ev S o = some (r, S')) :
    Ran C S w0 N ((execOp ρ o).run P w) r S' := by
  unfold opRun at h
  unfold execOp
  unfold goCall at hng
  split at h <;> rename_i ho <;> simp only [ho] at hng ⊢ <;> clear ho
  case h_1 =>
    obtain ⟨h1, rfl⟩ := withS_spec h
    exact Ran.pureValue hw (hev _ _ h1)
  case h_2 =>
    obtain ⟨h1, rfl⟩ := withS_spec h
    exact Ran.pureValue hw (hev _ _ h1)
  case h_3 =>
    rename_i c a b
    split at h
    · rename_i t hc
      obtain ⟨h1, rfl⟩ := withS_spec h
      have hb := bool_inv (hev _ _ hc)
      refine ⟨C, ρ (if t then a else b), w, .inl ?_, Ext.refl _ _, hev _ _ (by cases t <;> exact h1), hw⟩
      cases t <;> simp [hb, asBool]
    · cases h
  case h_4 =>
    rename_i t
    split at h
    · rename_i ti hti
      split at h
      · rename_i i S1 hn
        simp at h; obtain ⟨rfl, rfl⟩ := h
        obtain ⟨z, h1, h2, _⟩ := (hE.tt t ti hti).zeroValue
        obtain ⟨h3, h4⟩ := ofCells_reads (C := C) (S := S) h2
        obtain ⟨x1, x2, _, x4⟩ := new_cells hw hat hn h3.symm h4
        exact Ran.of ⟨_, _, _, by simp [Instr.alloc, Sem.run_bind, h1, newVar_run], x1, x2, x4⟩
      · cases h
    · cases h
  case h_5 =>
    rename_i t x
    split at h
    · rename_i v hx
      simp only [cond_eq_ite] at h
      split at h
      · rename_i hf
        split at h
        · rename_i i S1 hn
          simp at h; obtain ⟨rfl, rfl⟩ := h
          obtain ⟨h3, h4⟩ := (hev _ _ hx).reads hf
          obtain ⟨x1, x2, _, x4⟩ := new_cells hw hat hn h3 h4
          exact Ran.of ⟨_, _, _, by simp [Instr.box, Sem.run_bind, newVar_run], x1, x2, x4⟩
        · cases h
      · cases h
    · cases h
  case h_6 =>
    rename_i t ps
    split at h
    · rename_i ti vs hti hvs
      have ht := hE.tt t ti hti
      split at h
      · rename_i fs hk
        split at h
        · rename_i cs hf
          simp at h; obtain ⟨rfl, rfl⟩ := h
          obtain ⟨u, h1, h2⟩ := build_rel (w := w) hE hev ht hvs (.inl ⟨fs, hk, hf⟩)
          exact Ran.quiet hw h1 h2
        · cases h
      · rename_i n e hk
        split at h
        · rename_i sz hsz
          split at h
          · rename_i cs hf
            simp at h; obtain ⟨rfl, rfl⟩ := h
            obtain ⟨u, h1, h2⟩ := build_rel (w := w) hE hev ht hvs (.inr ⟨n, e, sz, hk, hsz, hf⟩)
            exact Ran.quiet hw h1 h2
          · cases h
        · cases h
      · cases h
    · cases h
  case h_7 =>
    rename_i t n ps
    split at h
    · rename_i e te vs he hvs
      simp only [cond_eq_ite, Bool.and_eq_true, Nat.ble_eq, Nat.blt_eq, nat_beq] at h
      split at h
      · rename_i h0
        subst h0
        split at h
        · simp at h; obtain ⟨rfl, rfl⟩ := h
          obtain ⟨ht, hte⟩ := elemE_spec hE he
          obtain ⟨q1, _⟩ := evParts_rel hev hvs
          have hps : ps = #[] := Array.eq_empty_of_size_eq_zero (by simpa using q1.symm)
          subst hps
          refine Ran.of ⟨C, .slice (some ⟨w.heap.size, 0, none⟩) 0 0, w.alloc (.cells #[] e), ?_, Ext.refl _ _, .clean _ _ (.full 0 [] _ 0 (fun _ => Go.undef) (fun i hi => by cases hi) (fun i hi => by cases hi) (fun i hi => by cases hi)), hw.alloc _⟩
          simp [Instr.buildSlice, Sem.run_bind, run_underlying ht, hte.sizeOf, Instr.fill, newRow, newObj, Sem.run, show Array.range 0 = #[] from Array.eq_empty_of_size_eq_zero (by simp)]
        · cases h
      split at h
      · rename_i hsz
        split at h
        · rename_i cs hf
          refine Ran.of (buildSlice_rel hE hw hat hev he hvs hsz.1 hsz.2 hf (hp := hp) (at_ := at_) ?_)
          split at h
          · rename_i hh
            split at h
            · rename_i i S1 hn
              simp at h; obtain ⟨rfl, rfl⟩ := h
              exact .inl ⟨hh, i, hn, rfl⟩
            · cases h
          · rename_i hh
            split at h
            · rename_i cs2 hc
              simp at h; obtain ⟨rfl, rfl⟩ := h
              exact .inr ⟨by simpa using hh, rfl, cs2, hc, rfl⟩
            · cases h
        · cases h
      · cases h
    · cases h
  case h_8 =>
    rename_i t a
    split at h
    · rename_i p ha
      obtain ⟨h1, rfl⟩ := withS_spec h
      obtain ⟨u, h2, h3⟩ := load_rel hE hw (hev _ _ ha) h1
      exact Ran.quiet hw h2 h3
    · cases h
  case h_9 =>
    rename_i t a x
    split at h
    · rename_i i off v ti ha hx hti
      simp only [cond_eq_ite, Bool.and_eq_true, nat_beq] at h
      split at h
      · rename_i hf
        split at h
        · rename_i bx hb
          simp at h; obtain ⟨rfl, rfl⟩ := h
          obtain ⟨w', h1, h2, h3⟩ := store_rel hE hw (hE.tt t ti hti) (hev _ _ ha) (hev _ _ hx) hf.1 hf.2 hb
          exact ⟨C, Go.undef, w', .inr ⟨by simp [Sem.run_bind, h1], rfl⟩, h2, vrel_undef _ _, h3⟩
        · cases h
      · cases h
    · cases h
  case h_10 =>
    rename_i x
    split at h
    · rename_i i off hx
      simp at h; obtain ⟨rfl, rfl⟩ := h
      have := hev _ _ hx
      obtain ⟨a, ha⟩ := ptr_inv this
      exact ⟨C, _, w, .inl (by simp [ha]), Ext.refl _ _, ha ▸ this, hw⟩
    · rename_i off c hx
      simp at h; obtain ⟨rfl, rfl⟩ := h
      have := hev _ _ hx
      obtain ⟨a, ha⟩ := imm_inv this
      exact ⟨C, _, w, .inl (by simp [ha]), Ext.refl _ _, ha ▸ this, hw⟩
    · cases h
  case h_11 =>
    rename_i op t x y _
    split at h
    · rename_i a b ha hb
      obtain ⟨h1, rfl⟩ := withS_spec h
      obtain ⟨u, h2, h3⟩ := binRun_rel (w := w) hE (hev _ _ ha) (hev _ _ hb) h1
      exact Ran.quiet hw h2 h3
    · cases h
  case h_12 =>
    rename_i op t x
    split at h
    · rename_i a ha
      obtain ⟨h1, rfl⟩ := withS_spec h
      obtain ⟨u, h2, h3⟩ := unRun_rel (P := P) (w := w) (hev _ _ ha) h1
      exact Ran.quiet hw h2 h3
    · cases h
  case h_13 =>
    rename_i s d x
    split at h
    · rename_i a ha
      obtain ⟨h1, rfl⟩ := withS_spec h
      obtain ⟨u, h2, h3⟩ := convert_rel hE hw (hev _ _ ha) h1
      exact Ran.quiet hw h2 h3
    · cases h
  case h_14 =>
    rename_i t x
    split at h
    · rename_i ti a hti ha
      have ht := hE.tt t ti hti
      have fin : (∀ n, ti.kind ≠ .iface n) → (match clean a with | some v => some (PV.iface t v, S) | none => none) = some (r, S') → Ran C S w0 N ((do pure (.value (← Instr.makeInterface t (ρ x))) : Sem Next).run P w) r S' := by
        intro hk e
        split at e
        · rename_i v hc
          simp at e; obtain ⟨rfl, rfl⟩ := e
          exact Ran.quiet hw (run_makeInterface w t _ (concrete_of ht hk)) (.clean _ _ (.iface t _ _ (clean_rel hc (hev _ _ ha))))
        · cases e
      split at h
      · cases h
      · rename_i i off hk
        simp only [cond_eq_ite, nat_beq] at h
        split at h
        · rename_i h0
          subst h0
          split at h
          · rename_i bt l hb
            split at h
            · rename_i c hc
              simp at h; obtain ⟨rfl, rfl⟩ := h
              exact Ran.of (iface_rel (E := E) hw ht hk hb hc (hev _ _ ha))
            · cases h
          · cases h
        · cases h
      · cases h
      · exact fin (by assumption) h
    · cases h
  case h_15 =>
    rename_i f first cap
    split at h
    · rename_i a b ha hb
      simp at h; obtain ⟨rfl, rfl⟩ := h
      obtain ⟨a1, a2⟩ := evArgs_rel hev ha
      obtain ⟨b1, b2⟩ := evArgs_rel hev hb
      refine ⟨C, .func (.func f) (first.map ρ) (cap.map ρ), w, .inl (by simp [Instr.makeFunc]), Ext.refl _ _, ?_, hw⟩
      refine .func f a b _ _ (fun i => (first.map ρ).getD i Go.undef) (fun i => (cap.map ρ).getD i Go.undef) (by simpa using a1.symm) (by simpa using b1.symm) (fun i hi => ?_) (fun i hi => ?_) (fun i hi => ?_) (fun i hi => ?_)
      · have : i < first.size := by rw [a1] at hi; simpa using hi
        simp [Array.getD_eq_getD_getElem?, this]
      · have : i < cap.size := by rw [b1] at hi; simpa using hi
        simp [Array.getD_eq_getD_getElem?, this]
      · have h' : i < first.size := by rw [a1] at hi; simpa using hi
        simpa [Array.getD_eq_getD_getElem?, h'] using a2 i hi (by simpa using h')
      · have h' : i < cap.size := by rw [b1] at hi; simpa using hi
        simpa [Array.getD_eq_getD_getElem?, h'] using b2 i hi (by simpa using h')
    · cases h
  case h_16 =>
    rename_i t x lo hi mx
    split at h
    · rename_i a ha
      obtain ⟨h1, rfl⟩ := withS_spec h
      obtain ⟨u, h2, h3⟩ := slice_rel hE hw hev (hev _ _ ha) h1
      exact Ran.quiet hw h2 h3
    · cases h
  case h_17 =>
    rename_i t x f
    split at h
    · rename_i ti a hti ha
      have ht := hE.tt t ti hti
      split at h
      · rename_i fs hk
        split at h
        · rename_i off s hp
          simp only [cond_eq_ite, nat_beq] at h
          split at h
          · cases h
          · rename_i hs
            split at h
            · rename_i i o
              simp at h; obtain ⟨rfl, rfl⟩ := h
              obtain ⟨ad, e, h2⟩ := ptr_add (hev _ _ ha) off
              refine Ran.quiet hw ?_ h2
              rw [e]; exact fieldAt_ok hE ht hk hp hs ad
            · rename_i o c
              simp at h; obtain ⟨rfl, rfl⟩ := h
              obtain ⟨ad, e, h2⟩ := imm_add (hev _ _ ha) off
              refine Ran.quiet hw ?_ h2
              rw [e]; exact fieldAt_ok hE ht hk hp hs ad
            · cases h
        · cases h
      · cases h
    · cases h
  case h_18 =>
    rename_i t x f
    split at h
    · rename_i ti cs hti ha
      have ht := hE.tt t ti hti
      split at h
      · rename_i fs hk
        split at h
        · rename_i off ft hf
          obtain ⟨h1, rfl⟩ := withS_spec h
          obtain ⟨u, h2, h3⟩ := field_rel (w := w) hE ht hk hf (hev _ _ ha) h1
          exact Ran.quiet hw h2 h3
        · cases h
      · cases h
    · cases h
  case h_19 =>
    rename_i t x i
    split at h
    · rename_i a k ha hk
      split at h
      · rename_i k' hn
        obtain ⟨h1, rfl⟩ := withS_spec h
        obtain ⟨kd, e⟩ := asNat_rel hn (hev _ _ hk)
        obtain ⟨u, h2, h3⟩ := indexAddr_rel (w := w) (kd := kd) hE (hev _ _ ha) h1
        refine Ran.quiet hw ?_ h3
        rw [e]; exact h2
      · cases h
    · cases h
  case h_20 =>
    rename_i t x i
    split at h
    · rename_i a k ha hk
      split at h
      · rename_i k' hn
        obtain ⟨h1, rfl⟩ := withS_spec h
        obtain ⟨kd, e⟩ := asNat_rel hn (hev _ _ hk)
        obtain ⟨u, h2, h3⟩ := index_rel (w := w) (kd := kd) hE (hev _ _ ha) h1
        refine Ran.quiet hw ?_ h3
        rw [e]; exact h2
      · cases h
    · cases h
  case h_21 =>
    rename_i t x
    split at h
    · rename_i ti l hti ha
      have ht := hE.tt t ti hti
      split at h
      · rename_i hk
        split at h
        · rename_i i S1 hn
          simp at h; obtain ⟨rfl, rfl⟩ := h
          obtain ⟨s, e, rfl⟩ := str_inv (hev _ _ ha)
          have hkind := ht.kind
          simp only [hk] at hkind
          obtain ⟨x1, x2, x3⟩ := newIter hw hat hn
          exact Ran.of ⟨_, _, _, by rw [e]; exact run_range_string w t s hkind, x1, x2, x3⟩
        · cases h
      · cases h
    · cases h
  case h_22 =>
    rename_i it str
    split at h
    · rename_i i off ha
      split at h
      · rename_i l pos hb
        simp only [cond_eq_ite, Bool.and_eq_true, nat_beq, Nat.blt_eq] at h
        split at h
        · rename_i hs
          obtain ⟨rfl, rfl⟩ := hs
          refine Ran.of (next_rel hw hb (hev _ _ ha) ?_)
          split at h
          · rename_i hp
            simp at h
            exact .inl ⟨hp, h.1.symm, h.2.symm⟩
          · rename_i hp
            simp at h
            exact .inr ⟨hp, h.1.symm, h.2.symm⟩
        · cases h
      · cases h
    · cases h
  case h_23 =>
    rename_i x _ a comma
    split at h
    · rename_i v hv
      obtain ⟨h1, rfl⟩ := withS_spec h
      obtain ⟨u, h2, h3⟩ := assert_rel (w := w) hE (hev _ _ hv) h1
      exact Ran.quiet hw h2 h3
    · cases h
  case h_24 =>
    rename_i x i
    split at h
    · rename_i vs hv
      obtain ⟨h1, rfl⟩ := withS_spec h
      obtain ⟨u, h2, h3⟩ := extract_rel (P := P) (w := w) (hev _ _ hv) h1
      exact Ran.quiet hw h2 h3
    · cases h
  case h_25 =>
    rename_i c
    split at h
    · rename_i args hargs
      obtain ⟨a1, a2⟩ := evArgs_rel hev hargs
      split at h
      · rename_i b hb
        have := fun cs => builtin_ran (P := P) hE hw hat (vs := c.args.map ρ) (ty := o.type) (cs := cs) (by simpa using a1) (fun i h1 h2 => by
          have := a2 i h1 (by simpa using h2)
          rw [List.getElem_map] at this
          rw [Array.getElem_map]
          exact this) h
        simp only [resolve, hb, Sem.run_bind, invoke, Sem.run, Result.andThen, pure_bind]
        exact this _
      · rename_i f hf
        simp [hf] at hng
      · cases h
    · cases h
  case h_26 => cases h

end
end Go.Am
