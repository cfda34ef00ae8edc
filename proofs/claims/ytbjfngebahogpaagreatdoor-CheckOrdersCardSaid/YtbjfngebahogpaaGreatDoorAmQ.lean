/- Operations that change nothing: what the abstract machine says of them is so. No condition. -/
import Derived.Test.YtbjfngebahogpaaGreatDoorAmA
import Derived.Laws.StructEq
import Derived.Laws.Pointers
import Derived.Laws.BytesString
import Derived.ChangeKeysEq
import Derived.Great.BuildSlice
namespace Go.Am

section
variable {P : Program} {C : Conf} {S : St} {w0 : Base} {w : World} {N : Nat → Prop}

/-- What an operation comes to. -/
def Ran (C : Conf) (S : St) (w0 : Base) (N : Nat → Prop) (r : Result Next) (p : PV) (S' : St) : Prop :=
  ∃ C' u w', (r = .ok (.value u) w' ∨ (r = .ok .skip w' ∧ u = Go.undef)) ∧ Ext C S C' S' ∧ VRel C' S' p u ∧ WRel C' S' w0 N w'

theorem Ran.quiet (hw : WRel C S w0 N w) {s : Sem Value} {u : Value} {p : PV} (hr : s.run P w = .ok u w) (hv : VRel C S p u) :
    Ran C S w0 N ((do pure (.value (← s)) : Sem Next).run P w) p S :=
  ⟨C, u, w, .inl (by simp [hr]), Ext.refl _ _, hv, hw⟩

theorem lookup_reads (hw : WRel C S w0 N w) {i off n : Nat} {c : List PV} (h : lookup S.bx i off n = some c) :
    c.length = n ∧ Reads C S (fun k => w.cell? ⟨C.be i, off + k, none⟩) c ∧ ∃ b, S.bx[i]? = some b ∧ b.live = true := by
  unfold lookup at h
  split at h
  · rename_i t l hb
    simp only [cond_eq_ite, Nat.ble_eq] at h
    split at h
    · rename_i hle
      simp at h; subst h
      obtain ⟨vs, h1, h2, _, h3⟩ := hw.cells i t l hb
      refine ⟨by simp; omega, ?_, _, hb, rfl⟩
      refine (h3.part off n).congr (fun k _ => ?_)
      simp [World.cell?, h1]
    · cases h
  · rename_i l hb
    simp only [cond_eq_ite, Nat.ble_eq] at h
    split at h
    · rename_i hle
      simp at h; subst h
      obtain ⟨h2, vs, t, fz, h1, _, _, h3⟩ := hw.ro i l hb
      have hlt : C.be i < w0.heap.size := by
        rcases Nat.lt_or_ge (C.be i) w0.heap.size with h' | h'
        · exact h'
        · simp [h'] at h1
      refine ⟨by simp; omega, (h3.part off n).congr fun k _ => ?_, _, hb, rfl⟩
      simp only [World.cell?, hw.keep _ hlt h2, h1]
      simp
    · cases h
  · cases h

/-- A box that may be written lies in its block. -/
theorem lookup_fits (hw : WRel C S w0 N w) {i off n : Nat} {c : List PV} (h : lookup S.bx i off n = some c) {b : Box} (hb : S.bx[i]? = some b) (_hl : b.live = true) : off + n ≤ C.sz i := by
  unfold lookup at h
  split at h
  · rename_i t l hb'
    simp only [cond_eq_ite, Nat.ble_eq] at h
    split at h
    · obtain ⟨vs, _, h2, h3, _⟩ := hw.cells i t l hb'
      omega
    · cases h
  · rename_i l hb'
    simp only [cond_eq_ite, Nat.ble_eq] at h
    split at h
    · obtain ⟨_, vs, _, _, _, h2, h3, _⟩ := hw.ro i l hb'
      omega
    · cases h
  · cases h

theorem loadVar_rel {t : Nat} {ti : TI} (ht : TIok P t ti) {b o : Nat} {c : List PV} {v : PV} (hl : c.length = ti.size)
    (hr : Reads C S (fun k => w.cell? ⟨b, o + k, none⟩) c) (hv : ofAgg ti.agg c = some v) : ∃ u, (loadVar t ⟨b, o, none⟩).run P w = .ok u w ∧ VRel C S v u := by
  have hf : ∀ j, j < ti.size → w.cell? ((⟨b, o, none⟩ : Addr).add j) = some ((w.cell? ⟨b, o + j, none⟩).getD Go.undef) := by
    intro j hj
    obtain ⟨u, h1, _⟩ := hr j (by omega)
    simp only at h1
    rw [Addr.add_lit, h1]; rfl
  have hload := run_loadCells (P := P) w ⟨b, o, none⟩ ti.size _ hf
  simp only [loadVar, Sem.run_bind, ht.isAgg, Result.andThen_ok]
  unfold ofAgg at hv
  cases ha : ti.agg with
  | true =>
    simp only [ha, cond_true, Option.some.injEq] at hv
    subst hv
    refine ⟨.agg ((List.range ti.size).map fun j => (w.cell? ⟨b, o + j, none⟩).getD Go.undef).toArray, ?_, ?_⟩
    · simp [ht.sizeOf, hload]
    · refine Reads.toAgg (hr.congr fun k hk => ?_) (by simp [hl])
      obtain ⟨u, h1, _⟩ := hr k hk
      have : k < ti.size := by omega
      simp [this, h1]
  | false =>
    simp only [ha, cond_false] at hv
    split at hv
    · rename_i x
      simp at hv; subst hv
      obtain ⟨u, h1, h2, _⟩ := hr 0 (by simp)
      exact ⟨u, by simp at h1; simp [h1], by simpa using h2⟩
    · cases hv

theorem load_rel {E : Env} (hE : EOk P E) (hw : WRel C S w0 N w) {t : Nat} {p v : PV} {x : Value} (hx : VRel C S p x) (h : loadRun E S t p = some v) :
    ∃ u, (Instr.loadAt t x).run P w = .ok u w ∧ VRel C S v u := by
  unfold loadRun at h
  split at h
  · cases h
  · rename_i ti hti
    have ht := hE.tt t ti hti
    split at h
    · rename_i i off
      split at h
      · rename_i c hc
        obtain ⟨h1, h2, b, hb, hlive⟩ := lookup_reads hw hc
        cases hx with
        | clean _ _ hx => cases hx
        | ptr i off a b' hi hh ha =>
          rw [hb] at hi; cases hi
          have := ha hlive; subst this
          obtain ⟨u, hu, hv⟩ := loadVar_rel ht h1 h2 h
          exact ⟨u, by simp [Instr.loadAt, Instr.sureAddr, hu], hv⟩
      · cases h
    · rename_i off cells
      simp only [cond_eq_ite, Nat.ble_eq] at h
      split at h
      · rename_i hle
        cases hx with
        | clean _ _ hx =>
          cases hx with
          | imm _ _ b o vs ho hs hc =>
            have hr : Reads C S (fun k => w.cell? ⟨b, o + k, none⟩) cells := Reads.clean ho (fun i hi => hw.sg _ _ _ (hs i hi)) hc
            have hr' := (hr.part off ti.size).congr (g := fun k => w.cell? ⟨b, o + off + k, none⟩) (fun k _ => by simp [Nat.add_assoc])
            obtain ⟨u, hu, hv⟩ := loadVar_rel ht (by simp; omega) hr' h
            exact ⟨u, by simp [Instr.loadAt, Instr.sureAddr, hu], hv⟩
      · cases h
    · cases h

theorem placeOf_spec {E : Env} {fs : List (Nat × Nat)} {f off s : Nat} (h : placeOf E fs f = some (off, s)) : ∃ t, fs[f]? = some (off, t) ∧ sizeE E t = some s := by
  unfold placeOf at h
  split at h
  · rename_i off' t hf
    split at h
    · rename_i s' hs
      simp at h; obtain ⟨rfl, rfl⟩ := h
      exact ⟨t, hf, hs⟩
    · cases h
  · cases h

theorem sizeE_spec {E : Env} (hE : EOk P E) {t s : Nat} (h : sizeE E t = some s) : ∃ ti, TIok P t ti ∧ ti.size = s := by
  unfold sizeE at h
  split at h
  · rename_i ti hti; simp at h; exact ⟨ti, hE.tt t ti hti, h⟩
  · cases h

theorem field_of {F : Array Field} {fs : List (Nat × Nat)} (h : F.toList.map (fun f => (f.offset, f.type)) = fs) {k off t : Nat} (hk : fs[k]? = some (off, t)) :
    ∃ f, F[k]? = some f ∧ f.offset = off ∧ f.type = t := by
  subst h
  simp only [List.getElem?_map, Option.map_eq_some_iff, Prod.mk.injEq] at hk
  obtain ⟨f, h1, h2, h3⟩ := hk
  exact ⟨f, by simpa using h1, h2, h3⟩

/-- The address of a field. -/
theorem fieldAt_ok {E : Env} (hE : EOk P E) {t : Nat} {ti : TI} (ht : TIok P t ti) {fs : List (Nat × Nat)} (hk : ti.kind = .struct fs) {f off s : Nat}
    (hp : placeOf E fs f = some (off, s)) (hs : s ≠ 0) (a : Addr) :
    (Instr.fieldAt t (.pointer (some a)) f).run P w = .ok (.pointer (some (a.add off))) w := by
  obtain ⟨ft, h1, h2⟩ := placeOf_spec hp
  obtain ⟨fti, h3, h4⟩ := sizeE_spec hE h2
  have hkind := ht.kind
  simp only [hk] at hkind
  obtain ⟨F, h5, h6, _⟩ := hkind
  obtain ⟨fd, h7, h8, h9⟩ := field_of h6 h1
  have : (Go.sizeOf fd.type).run P w = .ok s w := by rw [h9]; rw [← h4]; exact h3.sizeOf w
  simp [Instr.fieldAt, underlying, h5, h7, Instr.sureAddr, fieldPlace, this, hs, h8]

/-- A pointer stays one, some cells on. -/
theorem ptr_add {i o : Nat} {x : Value} (hx : VRel C S (.ptr i o) x) (d : Nat) : ∃ a : Addr, x = .pointer (some a) ∧ VRel C S (.ptr i (o + d)) (.pointer (some (a.add d))) := by
  cases hx with
  | clean _ _ h => cases h
  | ptr _ _ a b hi hh ha => exact ⟨a, rfl, .ptr i (o + d) _ b hi hh (fun hl => by rw [ha hl, Addr.add_lit])⟩

theorem imm_add {o : Nat} {c : List PV} {x : Value} (hx : VRel C S (.imm o c) x) (d : Nat) : ∃ a : Addr, x = .pointer (some a) ∧ VRel C S (.imm (o + d) c) (.pointer (some (a.add d))) := by
  cases hx with
  | clean _ _ h =>
    cases h with
    | imm _ _ b oo vs ho hs hc =>
      refine ⟨_, rfl, ?_⟩
      rw [Addr.add_lit, Nat.add_assoc]
      exact .clean _ _ (.imm (o + d) c b oo vs ho hs hc)

end
end Go.Am

/- Operations that change nothing, continued: fields, elements, parts, slices. No condition. -/
namespace Go.Am

section
variable {P : Program} {C : Conf} {S : St} {w0 : Base} {w : World} {N : Nat → Prop}

theorem asNat_rel {p : PV} {k : Nat} (h : asNat p = some k) {x : Value} (hx : VRel C S p x) : ∃ kd, x = .int kd (k : Int) := by
  unfold asNat at h
  split at h
  · simp at h; subst h
    cases hx with
    | clean _ _ hx => cases hx; exact ⟨_, rfl⟩
  · cases h

theorem indexAddr_rel {E : Env} (hE : EOk P E) {t : Nat} {p q : PV} {k : Nat} {kd : IntKind} {x : Value} (hx : VRel C S p x) (h : indexAddrRun E t p k = some q) :
    ∃ u, (Instr.indexAt t x (.int kd k)).run P w = .ok u w ∧ VRel C S q u := by
  unfold indexAddrRun at h
  split at h
  · cases h
  · rename_i ti hti
    have ht := (hE.tt t ti hti).kind
    split at h
    · rename_i e kk n cells hk
      simp only [hk] at ht
      simp only [cond_eq_ite, Nat.blt_eq] at h
      split at h
      · rename_i hlt
        split at h
        · rename_i sz hsz
          simp at h; subst h
          obtain ⟨eti, he, hes⟩ := sizeE_spec hE hsz
          have hso := he.sizeOf w
          rw [hes] at hso
          have key : ∀ (b o cap : Nat) (vs : Nat → Value), (∀ i (h : i < cells.length), cells[i].one = true) → (∀ i, i < cells.length → C.sg b (o + i) = some (vs i)) →
              (∀ i (h : i < cells.length), CRel C.sg cells[i] (vs i)) → ∃ u, (Instr.indexAt t (.slice (some ⟨b, o, none⟩) n cap) (.int kd k)).run P w = .ok u w ∧ VRel C S (.imm (k * sz) cells) u := by
            intro b o cap vs ho hs hc
            refine ⟨.pointer (some ⟨b, o + k * sz, none⟩), ?_, .clean _ _ (.imm (k * sz) cells b o vs ho hs hc)⟩
            simp [Instr.indexAt, asIntOf, underlying, ht, hlt, hso, Addr.add_lit]
          cases hx with
          | clean _ _ hx =>
            cases hx with
            | sh _ _ b o cap vs hn ho hs hc => exact key b o cap vs ho hs hc
            | full _ _ b o vs ho hs hc => exact key b o n vs ho hs hc
            | she a cap => omega
            | fulle a => omega
          | sid g _ _ b o cap vs hg hn ho hs hc _ => exact key b o cap vs ho hs hc
        · cases h
      · cases h
    · rename_i e b off n wd hk
      simp only [hk] at ht
      simp only [cond_eq_ite, Nat.blt_eq] at h
      split at h
      · rename_i hlt
        split at h
        · rename_i sz hsz
          simp at h; subst h
          obtain ⟨eti, he, hes⟩ := sizeE_spec hE hsz
          have hso := he.sizeOf w
          rw [hes] at hso
          cases hx with
          | clean _ _ hx => cases hx
          | ms _ _ _ _ a cap bb hi hh hn ha =>
            refine ⟨.pointer (some (a.add (k * sz))), by simp [Instr.indexAt, asIntOf, underlying, ht, hlt, hso], .ptr b _ _ bb hi hh (fun hl => by rw [(ha hl (by omega)).1, Addr.add_lit])⟩
        · cases h
      · cases h
    · rename_i n e b off hk
      simp only [hk] at ht
      simp only [cond_eq_ite, Nat.blt_eq] at h
      split at h
      · rename_i hlt
        split at h
        · rename_i sz hsz
          simp at h; subst h
          obtain ⟨eti, he, hes⟩ := sizeE_spec hE hsz
          have hso := he.sizeOf w
          rw [hes] at hso
          obtain ⟨a, rfl, hq⟩ := ptr_add hx (k * sz)
          exact ⟨_, by simp [Instr.indexAt, asIntOf, underlying, ht, hlt, hso, Instr.sureAddr], hq⟩
        · cases h
      · cases h
    · rename_i n e off cells hk
      simp only [hk] at ht
      simp only [cond_eq_ite, Nat.blt_eq] at h
      split at h
      · rename_i hlt
        split at h
        · rename_i sz hsz
          simp at h; subst h
          obtain ⟨eti, he, hes⟩ := sizeE_spec hE hsz
          have hso := he.sizeOf w
          rw [hes] at hso
          obtain ⟨a, rfl, hq⟩ := imm_add hx (k * sz)
          exact ⟨_, by simp [Instr.indexAt, asIntOf, underlying, ht, hlt, hso, Instr.sureAddr], hq⟩
        · cases h
      · cases h
    · cases h

/-- An aggregate's cells. -/
theorem VRel.aggCells {cells : List PV} {x : Value} (h : VRel C S (.agg cells) x) : ∃ cs, x = .agg cs ∧ cs.size = cells.length ∧ Reads C S (fun k => cs[k]?) cells := by
  cases h with
  | clean _ _ h =>
    cases h with
    | agg _ cs vs hl ho hv hc => exact ⟨cs, rfl, hl, Reads.clean ho hv hc⟩
  | agg _ cs vs hl ho hv hc => exact ⟨cs, rfl, hl, fun k hk => ⟨vs k, hv k hk, hc k hk, ho k hk⟩⟩

theorem part_rel {E : Env} (hE : EOk P E) {t : Nat} {cells : List PV} {cs : Array Value} (hl : cs.size = cells.length) (hr : Reads C S (fun k => cs[k]?) cells) {off : Nat} {q : PV}
    (h : partOf E t cells off = some q) : ∃ u, (part t cs off).run P w = .ok u w ∧ VRel C S q u := by
  unfold partOf at h
  split at h
  · cases h
  · rename_i ti hti
    have ht := hE.tt t ti hti
    simp only [cond_eq_ite, Nat.ble_eq] at h
    split at h
    · rename_i hle
      cases ha : ti.agg with
      | true =>
        simp only [ha, if_true, Option.some.injEq] at h
        subst h
        refine ⟨.agg (cs.extract off (off + ti.size)), by simp [part, ht.isAgg, ha, ht.sizeOf], ?_⟩
        refine Reads.toAgg ((hr.part off ti.size).congr fun k hk => ?_) (by simp; omega)
        simp only [List.length_take, List.length_drop] at hk
        simp only [Array.getElem?_extract]
        rw [if_pos (by omega)]
      | false =>
        simp only [ha, Bool.false_eq_true, if_false] at h
        have hlt : off < cells.length := by
          rcases Nat.lt_or_ge off cells.length with h' | h'
          · exact h'
          · simp [List.getElem?_eq_none h'] at h
        obtain ⟨u, h1, h2, _⟩ := hr off hlt
        simp [hlt] at h
        subst h
        exact ⟨u, by simp at h1; simp [part, ht.isAgg, ha, h1], h2⟩
    · cases h

theorem bytesL_getElem {s : ByteArray} {i b : Nat} (h : (bytesL s)[i]? = some b) : ∃ (hi : i < s.size), (s[i]'hi).toNat = b := by
  unfold bytesL at h
  simp only [List.getElem?_map, Option.map_eq_some_iff] at h
  obtain ⟨c, h1, h2⟩ := h
  have h1' : s.data[i]? = some c := by simpa using h1
  obtain ⟨hi, he⟩ := Array.getElem?_eq_some_iff.1 h1'
  refine ⟨hi, ?_⟩
  rw [← h2, ← he]; rfl

theorem index_rel {E : Env} (hE : EOk P E) {t : Nat} {p q : PV} {k : Nat} {kd : IntKind} {x : Value} (hx : VRel C S p x) (h : indexRun E t p k = some q) :
    ∃ u, (Instr.index t x (.int kd k)).run P w = .ok u w ∧ VRel C S q u := by
  unfold indexRun at h
  split at h
  · cases h
  · rename_i ti hti
    have ht := (hE.tt t ti hti).kind
    split at h
    · rename_i l hk
      simp only [hk] at ht
      split at h
      · rename_i b hb
        simp at h; subst h
        cases hx with
        | clean _ _ hx =>
          generalize hl : l = l' at hx
          cases hx with
          | str s =>
            subst hl
            obtain ⟨hi, hb'⟩ := bytesL_getElem hb
            refine ⟨.int .u8 (s[k]'hi).toNat, ?_, ?_⟩
            · have : s[k]? = some (s[k]'hi) := by simp [getElem?_pos, hi]
              simp [Instr.index, asIntOf, underlying, ht, this]
            · rw [hb']; exact .clean _ _ (.int .u8 b)
      · cases h
    · rename_i n e cells hk
      simp only [hk] at ht
      simp only [cond_eq_ite, Nat.blt_eq] at h
      split at h
      · rename_i hlt
        split at h
        · rename_i sz hsz
          obtain ⟨eti, he, hes⟩ := sizeE_spec hE hsz
          have hso := he.sizeOf w
          rw [hes] at hso
          obtain ⟨cs, rfl, hl, hr⟩ := hx.aggCells
          obtain ⟨u, hu, hv⟩ := part_rel (w := w) hE hl hr h
          exact ⟨u, by simp [Instr.index, asIntOf, underlying, ht, hlt, hso, hu], hv⟩
        · cases h
      · cases h
    · cases h

theorem field_rel {E : Env} (hE : EOk P E) {t : Nat} {ti : TI} (ht : TIok P t ti) {fs : List (Nat × Nat)} (hk : ti.kind = .struct fs) {f off ft : Nat} (hf : fs[f]? = some (off, ft))
    {cells : List PV} {x : Value} (hx : VRel C S (.agg cells) x) {q : PV} (h : partOf E ft cells off = some q) : ∃ u, (Instr.field t x f).run P w = .ok u w ∧ VRel C S q u := by
  have hkind := ht.kind
  simp only [hk] at hkind
  obtain ⟨F, h5, h6, _⟩ := hkind
  obtain ⟨fd, h7, h8, h9⟩ := field_of h6 hf
  obtain ⟨cs, rfl, hl, hr⟩ := hx.aggCells
  obtain ⟨u, hu, hv⟩ := part_rel (w := w) hE hl hr h
  exact ⟨u, by simp [Instr.field, underlying, h5, h7, asAgg, h8, h9, hu], hv⟩

theorem tup_rel {vs : List PV} {x : Value} (h : VRel C S (.tup vs) x) : ∃ cs : Array Value, x = .tuple cs ∧ cs.size = vs.length ∧ ∀ i (hi : i < vs.length), ∃ v, cs[i]? = some v ∧ VRel C S vs[i] v := by
  cases h with
  | clean _ _ h =>
    cases h with
    | tup _ cs f hl hv hc => exact ⟨cs, rfl, hl, fun i hi => ⟨f i, hv i hi, .clean _ _ (hc i hi)⟩⟩
  | tup _ cs f hl hv hc => exact ⟨cs, rfl, hl, fun i hi => ⟨f i, hv i hi, hc i hi⟩⟩

theorem extract_rel {vs : List PV} {x : Value} (hx : VRel C S (.tup vs) x) {i : Nat} {q : PV} (h : vs[i]? = some q) : ∃ u, (Instr.extract x i).run P w = .ok u w ∧ VRel C S q u := by
  obtain ⟨cs, rfl, hl, hr⟩ := tup_rel hx
  have hi : i < vs.length := by
    rcases Nat.lt_or_ge i vs.length with h' | h'
    · exact h'
    · simp [List.getElem?_eq_none h'] at h
  obtain ⟨v, h1, h2⟩ := hr i hi
  simp [hi] at h
  subst h
  exact ⟨v, by simp [Instr.extract, h1], h2⟩

end
end Go.Am

/- Operations that change nothing, continued: arithmetic, comparison, conversion, slices. No condition. -/
namespace Go.Am

section
variable {P : Program} {C : Conf} {S : St} {w0 : Base} {w : World} {N : Nat → Prop}

theorem wrap_id {k : IntKind} {n : Int} (h0 : k.min ≤ n) (h1 : n ≤ k.max) : k.wrap n = n := by
  cases k <;> simp only [IntKind.wrap, IntKind.min, IntKind.max, IntKind.signed, IntKind.bits, Bool.false_and, Bool.true_and, if_true, Bool.false_eq_true, if_false] at * <;> (try split) <;> simp_all <;> omega

theorem fwrap_eq (k : IntKind) (n : Int) : fwrap k n = k.wrap n := by
  unfold fwrap
  split <;> (try simp only [cond_eq_ite, Nat.blt_eq]) <;> (try split) <;> (try rfl)
  all_goals
    symm
    apply wrap_id <;> simp [IntKind.min, IntKind.max, IntKind.signed, IntKind.bits] <;> omega

theorem int_inv {k : IntKind} {n : Int} {x : Value} (h : VRel C S (.int k n) x) : x = .int k n := by
  cases h with
  | clean _ _ h => cases h; rfl

theorem bool_inv {b : Bool} {x : Value} (h : VRel C S (.bool b) x) : x = .bool b := by
  cases h with
  | clean _ _ h => cases h; rfl

theorem str_inv {l : List Nat} {x : Value} (h : VRel C S (.str l) x) : ∃ s, x = .string s ∧ l = bytesL s := by
  cases h with
  | clean _ _ h => cases h; exact ⟨_, rfl, rfl⟩

theorem kindEq_iff {a b : IntKind} (h : kindEq a b = true) : a = b := by cases a <;> cases b <;> first | rfl | cases h

theorem bytesL_toList (s : ByteArray) : bytesL s = s.toList.map UInt8.toNat := by
  rw [bytesL, ByteArray.toList_eq]

theorem listEq_iff : ∀ {a b : List Nat}, listEq a b = true ↔ a = b
  | [], [] => by simp [listEq]
  | [], _ :: _ => by simp [listEq]
  | _ :: _, [] => by simp [listEq]
  | x :: a, y :: b => by
    simp only [listEq, Bool.and_eq_true, nat_beq, List.cons.injEq]
    rw [listEq_iff]

theorem map_toNat_inj : ∀ {a b : List UInt8}, a.map UInt8.toNat = b.map UInt8.toNat → a = b
  | [], [], _ => rfl
  | [], _ :: _, h => by cases h
  | _ :: _, [], h => by cases h
  | x :: a, y :: b, h => by
    simp only [List.map_cons, List.cons.injEq] at h
    rw [UInt8.toNat_inj.1 h.1, map_toNat_inj h.2]

theorem bytesL_inj {a b : ByteArray} (h : bytesL a = bytesL b) : a = b := by
  have := map_toNat_inj h
  cases a; cases b
  simp only [Array.toList_inj] at this
  simp_all

theorem bool_eq_of_iff {a b : Bool} (h : a = true ↔ b = true) : a = b := by cases a <;> cases b <;> simp_all

theorem listEq_bytes (a b : ByteArray) : listEq (bytesL a) (bytesL b) = (a.toList == b.toList) := by
  apply bool_eq_of_iff
  rw [listEq_iff, beq_iff_eq]
  refine ⟨fun h => by rw [bytesL_inj h], fun h => ?_⟩
  rw [bytesL_toList, bytesL_toList, h]

theorem listLess_bytes : ∀ (a b : List UInt8), listLess (a.map UInt8.toNat) (b.map UInt8.toNat) = Op.bytesLess a b
  | a, [] => by cases a <;> simp [listLess, Op.bytesLess]
  | [], _ :: _ => by simp [listLess, Op.bytesLess]
  | x :: a, y :: b => by
    simp only [List.map_cons, listLess, Op.bytesLess, listLess_bytes a b]
    congr 1
    · apply bool_eq_of_iff
      simp [Nat.blt_eq, UInt8.lt_iff_toNat_lt]
    · congr 1
      apply bool_eq_of_iff
      simp [nat_beq, UInt8.toNat_inj]

theorem strBin_rel {op : BinOp} {a b : ByteArray} {q : PV} (h : strBin op (bytesL a) (bytesL b) = some q) : ∃ u, (Op.stringOp op a b).run P w = .ok u w ∧ VRel C S q u := by
  have hl : Op.bytesLess a.toList b.toList = listLess (bytesL a) (bytesL b) := by rw [bytesL_toList, bytesL_toList, listLess_bytes]
  have he := listEq_bytes a b
  have hsa : (bytesL a).length = a.size := by simp [bytesL]
  have hsb : (bytesL b).length = b.size := by simp [bytesL]
  cases op <;> simp only [strBin, Option.some.injEq, reduceCtorEq] at h
  case add =>
    simp only [cond_eq_ite, Nat.ble_eq, hsa, hsb] at h
    split at h
    · rename_i hle
      simp at h; subst h
      refine ⟨.string (a ++ b), run_string_add_sum w a b (by simp [maxStr] at hle; omega), .clean _ _ ?_⟩
      have : bytesL a ++ bytesL b = bytesL (a ++ b) := by simp [bytesL]
      rw [this]; exact .str _
    · cases h
  all_goals
    subst h
    exact ⟨.bool _, by simp only [Op.stringOp, Sem.run_pure, hl, ← he], .clean _ _ (.bool _)⟩

theorem intBin_rel {op : BinOp} {k : IntKind} {a b : Int} {q : PV} (hop : op ≠ .shl ∧ op ≠ .shr) (h : intBin op k a b = some q) (t : Nat) :
    ∃ u, (binOp op t (.int k a) (.int k b)).run P w = .ok u w ∧ VRel C S q u := by
  cases op <;> simp only [intBin, Option.some.injEq, reduceCtorEq, fwrap_eq] at h <;> (try (exact absurd rfl hop.1)) <;> (try (exact absurd rfl hop.2))
  case quo =>
    simp only [cond_eq_ite, beq_iff_eq] at h
    split at h
    · cases h
    · rename_i hb
      simp at h; subst h
      exact ⟨.int _ _, by simp [binOp, Op.intDiv, hb], .clean _ _ (.int _ _)⟩
  case rem =>
    simp only [cond_eq_ite, beq_iff_eq] at h
    split at h
    · cases h
    · rename_i hb
      simp at h; subst h
      exact ⟨.int _ _, by simp [binOp, Op.intDiv, hb], .clean _ _ (.int _ _)⟩
  all_goals
    subst h
    first
      | exact ⟨.int _ _, by simp only [binOp, ne_eq, not_true_eq_false, if_false, Op.intArith, Op.intBits, Sem.run_pure], .clean _ _ (.int _ _)⟩
      | exact ⟨.bool _, by simp only [binOp, ne_eq, not_true_eq_false, if_false, Op.intCmp, Sem.run_pure], .clean _ _ (.bool _)⟩

theorem shiftBin_rel {op : BinOp} {k k' : IntKind} {a b : Int} {q : PV} (hop : op = .shl ∨ op = .shr) (h : shiftBin op k a b = some q) (t : Nat) :
    ∃ u, (binOp op t (.int k a) (.int k' b)).run P w = .ok u w ∧ VRel C S q u := by
  unfold shiftBin at h
  simp only [cond_eq_ite, decide_eq_true_eq] at h
  split at h
  · cases h
  · rename_i hb
    rcases hop with rfl | rfl <;> simp at h <;> subst h <;> exact ⟨.int _ _, by simp [binOp, Op.shift, hb], .clean _ _ (.int _ _)⟩

theorem unRun_rel {op : UnOp} {p q : PV} {x : Value} (hx : VRel C S p x) (h : unRun op p = some q) : ∃ u, (Op.unary op x).run P w = .ok u w ∧ VRel C S q u := by
  unfold unRun at h
  split at h
  · simp at h; subst h
    rw [int_inv hx, fwrap_eq]
    refine ⟨_, ?_, .clean _ _ (.int _ _)⟩
    simp [Op.unary, Op.intArith]
  · simp at h; subst h
    rw [int_inv hx]
    exact ⟨_, by simp only [Op.unary, Op.intBits, Sem.run_pure]; rfl, .clean _ _ (.int _ _)⟩
  · simp at h; subst h
    rw [bool_inv hx]
    exact ⟨.bool _, by simp [Op.unary], .clean _ _ (.bool _)⟩
  · cases h

end
end Go.Am

/- Operations that change nothing, continued: equality, conversion, slices, assertions, builds. No condition. -/
namespace Go.Am

section
variable {P : Program} {C : Conf} {S : St} {w0 : Base} {w : World} {N : Nat → Prop}

theorem nilptr_inv {x : Value} (h : VRel C S .nilptr x) : x = .pointer none := by
  cases h with
  | clean _ _ h => cases h; rfl
theorem nilslice_inv {x : Value} (h : VRel C S .nilslice x) : x = .slice none 0 0 := by
  cases h with
  | clean _ _ h => cases h; rfl
theorem niliface_inv {x : Value} (h : VRel C S .niliface x) : x = .nilIface := by
  cases h with
  | clean _ _ h => cases h; rfl
theorem nilfunc_inv {x : Value} (h : VRel C S .nilfunc x) : x = .nilFunc := by
  cases h with
  | clean _ _ h => cases h; rfl
theorem ptr_inv {i o : Nat} {x : Value} (h : VRel C S (.ptr i o) x) : ∃ a, x = .pointer (some a) := (ptr_add h 0).imp fun _ h => h.1
theorem imm_inv {o : Nat} {c : List PV} {x : Value} (h : VRel C S (.imm o c) x) : ∃ a, x = .pointer (some a) := (imm_add h 0).imp fun _ h => h.1
theorem iface_inv {t : Nat} {p : PV} {x : Value} (h : VRel C S (.iface t p) x) : ∃ v, x = .iface t v ∧ CRel C.sg p v := by
  cases h with
  | clean _ _ h => cases h with | iface _ _ v h => exact ⟨v, rfl, h⟩
theorem slice_inv {k : SK} {n : Nat} {cells : List PV} {x : Value} (h : VRel C S (.slice k n cells) x) : ∃ (a : Addr) (cap : Nat), ∃ vs : Nat → Value, x = .slice (some a) n cap ∧ n ≤ cap ∧ (∀ i (h : i < cells.length), cells[i].one = true) ∧
    (∀ i, i < cells.length → C.sg a.block (a.off + i) = some (vs i)) ∧ (∀ i (h : i < cells.length), CRel C.sg cells[i] (vs i)) ∧ (k = .full → cap = n) ∧ (a.spot = none ∨ (n = 0 ∧ cells = [])) := by
  cases h with
  | clean _ _ h =>
    cases h with
    | sh _ _ b o cap vs hn ho hs hc => exact ⟨⟨b, o, none⟩, cap, vs, rfl, hn, ho, hs, hc, fun h => (by cases h), .inl rfl⟩
    | full _ _ b o vs ho hs hc => exact ⟨⟨b, o, none⟩, n, vs, rfl, Nat.le_refl _, ho, hs, hc, fun _ => rfl, .inl rfl⟩
    | she a cap => exact ⟨a, cap, fun _ => Go.undef, rfl, Nat.zero_le _, fun i h => (by cases h), fun i h => (by cases h), fun i h => (by cases h), fun h => (by cases h), .inr ⟨rfl, rfl⟩⟩
    | fulle a => exact ⟨a, 0, fun _ => Go.undef, rfl, Nat.zero_le _, fun i h => (by cases h), fun i h => (by cases h), fun i h => (by cases h), fun h => rfl, .inr ⟨rfl, rfl⟩⟩
  | sid g _ _ b o cap vs hg hn ho hs hc ht => exact ⟨⟨b, o, none⟩, cap, vs, rfl, hn, ho, hs, hc, fun h => (by cases h), .inl rfl⟩
theorem ms_inv {i off n wd : Nat} {x : Value} (h : VRel C S (.ms i off n wd) x) : ∃ a cap b, x = .slice (some a) n cap ∧ n ≤ cap ∧ S.bx[i]? = some b ∧ b.isHole = false ∧ (b.live = true → 0 < n → a = ⟨C.be i, off, none⟩ ∧ ∃ z, wd = n * z ∧ off + cap * z ≤ C.sz i) := by
  cases h with
  | clean _ _ h => cases h
  | ms _ _ _ _ a cap b hi hh hn ha => exact ⟨a, cap, b, rfl, hn, hi, hh, ha⟩
theorem func_inv {f : Nat} {a b : List PV} {x : Value} (h : VRel C S (.func f a b) x) : ∃ as bs, x = .func (.func f) as bs := by
  cases h with
  | clean _ _ h => cases h with | func _ _ _ as bs => exact ⟨as, bs, rfl⟩
  | func _ _ _ as bs => exact ⟨as, bs, rfl⟩

theorem scalK_spec {E : Env} (hE : EOk P E) {t : Nat} {k : TK} (h : scalK E t = some k) : ∃ ti, TIok P t ti ∧ ti.kind = k ∧ ti.size = 1 ∧ ti.agg = false := by
  unfold scalK at h
  split at h
  · rename_i ti hti
    simp only [cond_eq_ite, Bool.and_eq_true, nat_beq, Bool.not_eq_true'] at h
    split at h
    · rename_i hh
      simp at h
      exact ⟨ti, hE.tt t ti hti, h, hh.1, hh.2⟩
    · cases h
  · cases h

/-- The comparison of two of a type of one cell. -/
theorem eqCellT_rel {E : Env} (hE : EOk P E) {t : Nat} {k : TK} (hk : scalK E t = some k) {a b : PV} {x y : Value} {r : Bool} (hx : VRel C S a x) (hy : VRel C S b y)
    (h : eqCellT k a b = some r) (d : Nat) : (Op.equalIn (d + 1) t x y).run P w = .ok r w := by
  obtain ⟨ti, ht, hkind, _, _⟩ := scalK_spec hE hk
  have hu := ht.kind
  rw [hkind] at hu
  unfold eqCellT at h
  split at h
  · simp at h; subst h
    rw [bool_inv hx, bool_inv hy]
    exact run_equalIn_bool w d t _ _ hu
  · simp only [cond_eq_ite] at h
    split at h
    · rename_i hk
      obtain rfl := kindEq_iff hk
      simp at h; subst h
      rw [int_inv hx, int_inv hy]
      exact run_equalIn_int w d t _ _ _ _ hu
    · cases h
  · simp at h; subst h
    obtain ⟨s, rfl, rfl⟩ := str_inv hx
    obtain ⟨s', rfl, rfl⟩ := str_inv hy
    rw [run_equalIn_string w d t _ _ hu, listEq_bytes]
  · cases h

theorem part_scal {E : Env} (hE : EOk P E) {t : Nat} {k : TK} (hk : scalK E t = some k) {cs : Array Value} {i : Nat} {v : Value} (h : cs[i]? = some v) : (part t cs i).run P w = .ok v w := by
  obtain ⟨ti, ht, _, _, ha⟩ := scalK_spec hE hk
  simp [part, ht.isAgg, ha, h]

theorem eqArr_rel {E : Env} (hE : EOk P E) {e : Nat} {k : TK} (hk : scalK E e = some k) {xs ys : Array Value} (d : Nat) : ∀ (a b : List PV) (i : Nat) (r : Bool),
    Reads C S (fun j => xs[i + j]?) a → Reads C S (fun j => ys[i + j]?) b → eqArr k a b = some r → (Op.eqItems (d + 1) e 1 xs ys (List.range' i a.length)).run P w = .ok r w
  | [], [], i, r, _, _, h => by simp [eqArr] at h; subst h; simp [Op.eqItems]
  | [], _ :: _, i, r, _, _, h => by simp [eqArr] at h
  | _ :: _, [], i, r, _, _, h => by simp [eqArr] at h
  | a :: x, b :: y, i, r, ha, hb, h => by
    obtain ⟨u, hu, hu2, _⟩ := ha 0 (by simp)
    obtain ⟨v, hv, hv2, _⟩ := hb 0 (by simp)
    simp at hu hv hu2 hv2
    simp only [List.length_cons, List.range'_succ, Op.eqItems, Sem.run_bind, Nat.mul_one, part_scal hE hk hu, part_scal hE hk hv, Result.andThen_ok]
    unfold eqArr at h
    split at h
    · rename_i h1
      rw [eqCellT_rel hE hk hu2 hv2 h1 d]
      simp only [Result.andThen_ok, Bool.not_true, Bool.false_eq_true, if_false]
      refine eqArr_rel hE hk d x y (i + 1) r ?_ ?_ h
      · have := ha.drop 1; exact this.congr fun j _ => by rw [show i + 1 + j = i + (1 + j) by omega]
      · have := hb.drop 1; exact this.congr fun j _ => by rw [show i + 1 + j = i + (1 + j) by omega]
    · rename_i h1
      simp at h; subst h
      rw [eqCellT_rel hE hk hu2 hv2 h1 d]
      simp
    · cases h

theorem eqFs_rel {E : Env} (hE : EOk P E) {xs ys : Array Value} (d : Nat) : ∀ (F : List Field) (a b : List PV) (i : Nat) (r : Bool), (∀ f ∈ F, f.name ≠ "_") →
    Reads C S (fun j => xs[i + j]?) a → Reads C S (fun j => ys[i + j]?) b → eqFs E (F.map fun f => (f.offset, f.type)) i a b = some r → (Op.eqFields (d + 1) xs ys F).run P w = .ok r w
  | [], [], [], i, r, _, _, _, h => by simp [eqFs] at h; subst h; simp [Op.eqFields]
  | [], [], _ :: _, i, r, _, _, _, h => by simp [eqFs] at h
  | [], _ :: _, _, i, r, _, _, _, h => by simp [eqFs] at h
  | _ :: _, [], _, i, r, _, _, _, h => by simp [eqFs] at h
  | _ :: _, _ :: _, [], i, r, _, _, _, h => by simp [eqFs] at h
  | f :: F, a :: x, b :: y, i, r, hn, ha, hb, h => by
    obtain ⟨u, hu, hu2, _⟩ := ha 0 (by simp)
    obtain ⟨v, hv, hv2, _⟩ := hb 0 (by simp)
    simp at hu hv hu2 hv2
    simp only [List.map_cons, eqFs, cond_eq_ite, nat_beq] at h
    split at h
    · rename_i ho
      split at h
      · rename_i k hk
        have hname : f.name ≠ "_" := hn f (by simp)
        have p1 := part_scal (w := w) hE hk (cs := xs) (i := f.offset) (by rw [ho]; exact hu)
        have p2 := part_scal (w := w) hE hk (cs := ys) (i := f.offset) (by rw [ho]; exact hv)
        simp only [Op.eqFields, hname, ne_eq, not_false_eq_true, if_true, Sem.run_bind, p1, p2, Result.andThen_ok]
        split at h
        · rename_i h1
          rw [eqCellT_rel hE hk hu2 hv2 h1 d]
          simp only [Result.andThen_ok, Bool.not_true, Bool.false_eq_true, if_false]
          refine eqFs_rel hE d F x y (i + 1) r (fun g hg => hn g (by simp [hg])) ?_ ?_ h
          · have := ha.drop 1; exact this.congr fun j _ => by rw [show i + 1 + j = i + (1 + j) by omega]
          · have := hb.drop 1; exact this.congr fun j _ => by rw [show i + 1 + j = i + (1 + j) by omega]
        · rename_i h1
          simp at h; subst h
          rw [eqCellT_rel hE hk hu2 hv2 h1 d]
          simp
        · cases h
      · cases h
    · cases h

end
end Go.Am

/- Operations that change nothing, continued: two operands. No condition. -/
namespace Go.Am

section
variable {P : Program} {C : Conf} {S : St} {w0 : Base} {w : World} {N : Nat → Prop}

theorem run_eqGuard_none (op : BinOp) (t : TypeId) (x y : Operand) (a b : Value) (h1 : ¬ (a = .nilIface ∧ b = .nilIface)) (h2 : ¬ ((∃ c, a = .agg c) ∧ ∃ c, b = .agg c)) :
    (eqGuard op t x y a b).run P w = .ok () w := by
  by_cases ho : op = .eql ∨ op = .neq
  · rcases ho with rfl | rfl <;> (cases a <;> cases b <;> first | (exact absurd ⟨rfl, rfl⟩ h1) | (exact absurd ⟨⟨_, rfl⟩, ⟨_, rfl⟩⟩ h2) | simp [eqGuard])
  · cases op <;> first | (exact absurd (.inl rfl) ho) | (exact absurd (.inr rfl) ho) | simp [eqGuard]

theorem run_binOp_eql (t : TypeId) (a b : Value) (hi : ¬ ((∃ k n, a = .int k n) ∧ ∃ k n, b = .int k n)) (hs : ¬ ((∃ s, a = .string s) ∧ ∃ s, b = .string s))
    (hf : ∀ k x, a ≠ .float k x) (hc : ∀ k x y, a ≠ .complex k x y) {r : Bool} (h : (Op.equal t a b).run P w = .ok r w) :
    (binOp .eql t a b).run P w = .ok (.bool r) w ∧ (binOp .neq t a b).run P w = .ok (.bool (!r)) w := by
  cases a <;> first | (exact absurd rfl (hf _ _)) | (exact absurd rfl (hc _ _ _)) | skip
  all_goals (cases b <;> first | (exact absurd ⟨⟨_, _, rfl⟩, ⟨_, _, rfl⟩⟩ hi) | (exact absurd ⟨⟨_, rfl⟩, ⟨_, rfl⟩⟩ hs) | (constructor <;> simp [binOp, h]))

section
variable (d : Nat) (t : TypeId)
theorem eqG_if {m : Array (String × TypeId)} (ht : P.underlying t = some (.interface m)) (he : m.isEmpty = true) : (Op.eqGuardIn (d + 1) t .nilIface .nilIface).run P w = .ok false w := by simp [Op.eqGuardIn, underlying, ht, he]
theorem eqG_nil {m : Array (String × TypeId)} (ht : P.underlying t = some (.interface m)) (he : m.isEmpty = true) (op : BinOp) (x y : Operand) : (eqGuard op t x y .nilIface .nilIface).run P w = .ok () w := by
  have h : (Op.eqGuardIn Op.maxDepth t .nilIface .nilIface).run P w = .ok false w := eqG_if 9999 t ht he
  cases op <;> simp [eqGuard, h]
theorem eqI_ptr1 {e : TypeId} (ht : P.underlying t = some (.pointer e)) (b : Option Addr) : (Op.equalIn (d + 1) t (.pointer none) (.pointer b)).run P w = .ok b.isNone w := by simp [Op.equalIn, underlying, ht]
theorem eqI_ptr2 {e : TypeId} (ht : P.underlying t = some (.pointer e)) (a : Addr) : (Op.equalIn (d + 1) t (.pointer (some a)) (.pointer none)).run P w = .ok false w := by simp [Op.equalIn, underlying, ht]
theorem eqI_if1 {m : Array (String × TypeId)} (ht : P.underlying t = some (.interface m)) (u : TypeId) (v : Value) : (Op.equalIn (d + 1) t .nilIface (.iface u v)).run P w = .ok false w := by simp [Op.equalIn, underlying, ht]
theorem eqI_if2 {m : Array (String × TypeId)} (ht : P.underlying t = some (.interface m)) (u : TypeId) (v : Value) : (Op.equalIn (d + 1) t (.iface u v) .nilIface).run P w = .ok false w := by simp [Op.equalIn, underlying, ht]
theorem eqI_if3 {m : Array (String × TypeId)} (ht : P.underlying t = some (.interface m)) : (Op.equalIn (d + 1) t .nilIface .nilIface).run P w = .ok true w := by simp [Op.equalIn, underlying, ht]
theorem eqI_if4 {m : Array (String × TypeId)} (ht : P.underlying t = some (.interface m)) (u v : TypeId) (h : u ≠ v) (x y : Value) : (Op.equalIn (d + 1) t (.iface u x) (.iface v y)).run P w = .ok false w := by simp [Op.equalIn, underlying, ht, h]
theorem eqI_if5 {m : Array (String × TypeId)} (ht : P.underlying t = some (.interface m)) (u : TypeId) {i : TypeInfo} (hi : P.info? u = some i) (hc : i.comparable = true) (x y : Value) {r : Bool} (hr : (Op.equalIn d u x y).run P w = .ok r w) :
    (Op.equalIn (d + 1) t (.iface u x) (.iface u y)).run P w = .ok r w := by simp [Op.equalIn, underlying, ht, typeInfo, hi, hc, hr]
theorem eqI_sl1 {e : TypeId} (ht : P.underlying t = some (.slice e)) (b : Option Addr) (l c : Nat) : (Op.equalIn (d + 1) t (.slice none 0 0) (.slice b l c)).run P w = .ok b.isNone w := by simp [Op.equalIn, underlying, ht]
theorem eqI_sl2 {e : TypeId} (ht : P.underlying t = some (.slice e)) (a : Addr) (l c : Nat) : (Op.equalIn (d + 1) t (.slice (some a) l c) (.slice none 0 0)).run P w = .ok false w := by simp [Op.equalIn, underlying, ht]
theorem eqI_fn1 {x y : Array TypeId} {z : Bool} (ht : P.underlying t = some (.func x y z)) : (Op.equalIn (d + 1) t .nilFunc .nilFunc).run P w = .ok true w := by simp [Op.equalIn, underlying, ht]
theorem eqI_fn2 {x y : Array TypeId} {z : Bool} (ht : P.underlying t = some (.func x y z)) (f : Fn) (a b : Array Value) : (Op.equalIn (d + 1) t (.func f a b) .nilFunc).run P w = .ok false w := by simp [Op.equalIn, underlying, ht]
end

theorem fieldsOf_eq {t : TypeId} {F : Array Field} (h : P.underlying t = some (.struct F)) : P.underlying t = some (.struct (P.fieldsOf t)) ∧ P.fieldsOf t = F := by
  have : P.fieldsOf t = F := by simp [Program.fieldsOf, h]
  exact ⟨by rw [this]; exact h, this⟩

/-- Two values held against one another by a type. -/
theorem eqBin_rel {E : Env} (hE : EOk P E) {t : Nat} {ox oy : Operand} {p q : PV} {a b : Value} {r : Bool} (hx : VRel C S p a) (hy : VRel C S q b)
    (h : eqBin E (isC ox || isC oy) t p q = some r) (op : BinOp) (hop : op = .eql ∨ op = .neq) :
    (do eqGuard op t ox oy a b; binOp op t a b : Sem Value).run P w = .ok (.bool (if op = .eql then r else !r)) w := by
  have fin : ∀ {g : Bool}, (eqGuard op t ox oy a b).run P w = .ok () w → ((binOp .eql t a b).run P w = .ok (.bool g) w ∧ (binOp .neq t a b).run P w = .ok (.bool (!g)) w) →
      (do eqGuard op t ox oy a b; binOp op t a b : Sem Value).run P w = .ok (.bool (if op = .eql then g else !g)) w := by
    intro g h1 h2
    simp only [Sem.run_bind, h1, Result.andThen_ok]
    rcases hop with rfl | rfl
    · simpa using h2.1
    · simpa using h2.2
  unfold eqBin at h
  split at h
  · cases h
  · rename_i ti hti
    have htok := hE.tt t ti hti
    have ht := htok.kind
    split at h
    case h_1 hk =>
      simp only [hk] at ht
      simp at h; subst h
      obtain rfl := bool_inv hx
      obtain rfl := bool_inv hy
      exact fin (run_eqGuard_none _ _ _ _ _ _ (by simp) (by simp)) (run_binOp_eql _ _ _ (by simp) (by simp) (by simp) (by simp) (run_equal_bool w t _ _ ht))
    case h_2 e hk =>
      simp only [hk] at ht
      simp at h; subst h
      obtain rfl := nilptr_inv hx
      obtain rfl := nilptr_inv hy
      exact fin (run_eqGuard_none _ _ _ _ _ _ (by simp) (by simp)) (run_binOp_eql _ _ _ (by simp) (by simp) (by simp) (by simp) (eqI_ptr1 9999 t ht none))
    case h_3 e i o hk =>
      simp only [hk] at ht
      simp at h; subst h
      obtain ⟨ad, rfl⟩ := ptr_inv hy
      obtain rfl := nilptr_inv hx
      exact fin (run_eqGuard_none _ _ _ _ _ _ (by simp) (by simp)) (run_binOp_eql _ _ _ (by simp) (by simp) (by simp) (by simp) (eqI_ptr1 9999 t ht _))
    case h_4 e i o hk =>
      simp only [hk] at ht
      simp at h; subst h
      obtain ⟨ad, rfl⟩ := ptr_inv hx
      obtain rfl := nilptr_inv hy
      exact fin (run_eqGuard_none _ _ _ _ _ _ (by simp) (by simp)) (run_binOp_eql _ _ _ (by simp) (by simp) (by simp) (by simp) (eqI_ptr2 9999 t ht _))
    case h_5 e i o hk =>
      simp only [hk] at ht
      simp at h; subst h
      obtain ⟨ad, rfl⟩ := imm_inv hy
      obtain rfl := nilptr_inv hx
      exact fin (run_eqGuard_none _ _ _ _ _ _ (by simp) (by simp)) (run_binOp_eql _ _ _ (by simp) (by simp) (by simp) (by simp) (eqI_ptr1 9999 t ht _))
    case h_6 e i o hk =>
      simp only [hk] at ht
      simp at h; subst h
      obtain ⟨ad, rfl⟩ := imm_inv hx
      obtain rfl := nilptr_inv hy
      exact fin (run_eqGuard_none _ _ _ _ _ _ (by simp) (by simp)) (run_binOp_eql _ _ _ (by simp) (by simp) (by simp) (by simp) (eqI_ptr2 9999 t ht _))
    case h_7 m u v hk =>
      simp only [hk] at ht
      obtain ⟨ms, ht, _⟩ := ht
      simp at h; subst h
      obtain ⟨ad, rfl, _⟩ := iface_inv hy
      obtain rfl := niliface_inv hx
      exact fin (run_eqGuard_none _ _ _ _ _ _ (by simp) (by simp)) (run_binOp_eql _ _ _ (by simp) (by simp) (by simp) (by simp) (eqI_if1 9999 t ht _ _))
    case h_8 m u v hk =>
      simp only [hk] at ht
      obtain ⟨ms, ht, _⟩ := ht
      simp at h; subst h
      obtain ⟨ad, rfl, _⟩ := iface_inv hx
      obtain rfl := niliface_inv hy
      exact fin (run_eqGuard_none _ _ _ _ _ _ (by simp) (by simp)) (run_binOp_eql _ _ _ (by simp) (by simp) (by simp) (by simp) (eqI_if2 9999 t ht _ _))
    case h_9 n hk =>
      simp only [hk] at ht
      obtain ⟨ms, ht, hms⟩ := ht
      simp only [cond_eq_ite, Bool.or_eq_true, nat_beq] at h
      split at h
      · rename_i hc
        simp at h; subst h
        obtain rfl := niliface_inv hx
        obtain rfl := niliface_inv hy
        refine fin ?_ (run_binOp_eql _ _ _ (by simp) (by simp) (by simp) (by simp) (eqI_if3 9999 t ht))
        rcases hc with hc | hc
        · rcases hc with hc | hc
          · cases ox <;> first | (simp [isC] at hc; done) | (rcases hop with rfl | rfl <;> simp [eqGuard])
          · cases oy <;> first | (simp [isC] at hc; done) | (rcases hop with rfl | rfl <;> simp [eqGuard])
        · have : ms.isEmpty = true := by rw [Array.isEmpty_iff_size_eq_zero]; omega
          exact eqG_nil t ht this op ox oy
      · cases h
    case h_10 m u p' v q' hk =>
      simp only [hk] at ht
      obtain ⟨ms, ht, hms⟩ := ht
      obtain ⟨x, rfl, hx'⟩ := iface_inv hx
      obtain ⟨y, rfl, hy'⟩ := iface_inv hy
      refine fin (run_eqGuard_none _ _ _ _ _ _ (by simp) (by simp)) (run_binOp_eql _ _ _ (by simp) (by simp) (by simp) (by simp) ?_)
      simp only [cond_eq_ite, nat_beq] at h
      split at h
      · rename_i huv
        subst huv
        split at h
        · rename_i ti2 hti2
          split at h
          · rename_i hcmp
            split at h
            · rename_i k hk2
              obtain ⟨i2, _, hi2, _, _, _, _, hc2, _⟩ := (hE.tt _ _ hti2).info
              have := eqCellT_rel (w := w) (C := C) (S := S) hE hk2 (.clean _ _ hx') (.clean _ _ hy') h 9998
              exact eqI_if5 9999 t ht _ hi2 (by rw [hc2, hcmp]) _ _ this
            · cases h
          · cases h
        · cases h
      · rename_i huv
        simp at h; subst h
        exact eqI_if4 9999 t ht _ _ huv _ _
    case h_11 e hk =>
      simp only [hk] at ht
      simp at h; subst h
      obtain rfl := nilslice_inv hx
      obtain rfl := nilslice_inv hy
      exact fin (run_eqGuard_none _ _ _ _ _ _ (by simp) (by simp)) (run_binOp_eql _ _ _ (by simp) (by simp) (by simp) (by simp) (eqI_sl1 9999 t ht none 0 0))
    case h_12 e k n c hk =>
      simp only [hk] at ht
      simp at h; subst h
      obtain ⟨a', cap, vs, rfl, _⟩ := slice_inv hy
      obtain rfl := nilslice_inv hx
      exact fin (run_eqGuard_none _ _ _ _ _ _ (by simp) (by simp)) (run_binOp_eql _ _ _ (by simp) (by simp) (by simp) (by simp) (eqI_sl1 9999 t ht _ _ _))
    case h_13 e k n c hk =>
      simp only [hk] at ht
      simp at h; subst h
      obtain ⟨a', cap, vs, rfl, _⟩ := slice_inv hx
      obtain rfl := nilslice_inv hy
      exact fin (run_eqGuard_none _ _ _ _ _ _ (by simp) (by simp)) (run_binOp_eql _ _ _ (by simp) (by simp) (by simp) (by simp) (eqI_sl2 9999 t ht _ _ _))
    case h_14 hk =>
      simp only [hk] at ht
      obtain ⟨_, _, _, ht⟩ := ht
      simp at h; subst h
      obtain rfl := nilfunc_inv hx
      obtain rfl := nilfunc_inv hy
      exact fin (run_eqGuard_none _ _ _ _ _ _ (by simp) (by simp)) (run_binOp_eql _ _ _ (by simp) (by simp) (by simp) (by simp) (eqI_fn1 9999 t ht))
    case h_15 f u v hk =>
      simp only [hk] at ht
      obtain ⟨_, _, _, ht⟩ := ht
      simp at h; subst h
      obtain ⟨_, _, rfl⟩ := func_inv hx
      obtain rfl := nilfunc_inv hy
      exact fin (run_eqGuard_none _ _ _ _ _ _ (by simp) (by simp)) (run_binOp_eql _ _ _ (by simp) (by simp) (by simp) (by simp) (eqI_fn2 9999 t ht _ _ _))
    case h_16 n e x y hk =>
      simp only [hk] at ht
      simp only [cond_eq_ite, Bool.and_eq_true, nat_beq] at h
      split at h
      · rename_i hh
        split at h
        · rename_i k hk2
          obtain ⟨hg1, hg2, _⟩ := htok.eqg hh.1
          obtain ⟨cs, rfl, hl, hr⟩ := hx.aggCells
          obtain ⟨ds, rfl, hl', hr'⟩ := hy.aggCells
          obtain ⟨eti, he, _, hes, _⟩ := scalK_spec hE hk2
          obtain ⟨ei, _, hei, hesz, _⟩ := he.info
          refine fin (run_eqGuard_agg w op t ox oy cs ds hg1) (run_binOp_eql _ _ _ (by simp) (by simp) (by simp) (by simp) ?_)
          have hc : P.cellsOf e = 1 := by simp [Program.cellsOf, hei, hesz, hes]
          have := eqArr_rel (w := w) hE hk2 (xs := cs) (ys := ds) 9998 x y 0 r (by simpa using hr) (by simpa using hr') h
          simp only [Op.equal, Op.maxDepth]
          rw [run_equalIn_array w 9999 cs ds ht hei, hc, List.range_eq_range', ← hh.2]
          exact this
        · cases h
      · cases h
    case h_17 fs x y hk =>
      simp only [hk] at ht
      obtain ⟨F, ht, hF, _⟩ := ht
      simp only [cond_eq_ite] at h
      split at h
      · rename_i hh
        obtain ⟨hg1, hg2, hg3⟩ := htok.eqg hh
        obtain ⟨cs, rfl, hl, hr⟩ := hx.aggCells
        obtain ⟨ds, rfl, hl', hr'⟩ := hy.aggCells
        refine fin (run_eqGuard_agg w op t ox oy cs ds hg1) (run_binOp_eql _ _ _ (by simp) (by simp) (by simp) (by simp) ?_)
        obtain ⟨h1, h2⟩ := fieldsOf_eq ht
        simp only [Op.equal, Op.maxDepth]
        rw [run_equalIn_struct w 9999 t cs ds h1 hg2, h2]
        rw [← hF] at h
        exact eqFs_rel hE 9998 F.toList x y 0 r (hg3 F ht) (by simpa using hr) (by simpa using hr') h
      · cases h
    case h_18 => cases h

theorem binRun_rel {E : Env} (hE : EOk P E) {op : BinOp} {t : Nat} {ox oy : Operand} {p q v : PV} {a b : Value} (hx : VRel C S p a) (hy : VRel C S q b)
    (h : binRun E (isC ox || isC oy) op t p q = some v) : ∃ u, (do eqGuard op t ox oy a b; binOp op t a b : Sem Value).run P w = .ok u w ∧ VRel C S v u := by
  unfold binRun at h
  split at h
  · rename_i k m k' n
    rw [int_inv hx, int_inv hy]
    have hg := run_eqGuard_none (w := w) (P := P) op t ox oy (.int k m) (.int k' n) (by simp) (by simp)
    simp only [Sem.run_bind, hg, Result.andThen_ok]
    split at h
    · exact shiftBin_rel (.inl rfl) h t
    · exact shiftBin_rel (.inr rfl) h t
    · rename_i h1 h2
      simp only [cond_eq_ite] at h
      split at h
      · rename_i hk
        obtain rfl := kindEq_iff hk
        exact intBin_rel ⟨h1, h2⟩ h t
      · cases h
  · obtain ⟨s, rfl, rfl⟩ := str_inv hx
    obtain ⟨s', rfl, rfl⟩ := str_inv hy
    have hg := run_eqGuard_none (w := w) (P := P) op t ox oy (.string s) (.string s') (by simp) (by simp)
    obtain ⟨u, hu, hv⟩ := strBin_rel (w := w) (P := P) (C := C) (S := S) h
    refine ⟨u, ?_, hv⟩
    simp only [Sem.run_bind, hg, Result.andThen_ok]
    cases op <;> first | (simp [binOp, hu]; done) | simp [strBin] at h
  · split at h
    · simp only [Option.map_eq_some_iff] at h
      obtain ⟨r, hr, rfl⟩ := h
      exact ⟨_, eqBin_rel hE hx hy hr .eql (.inl rfl), .clean _ _ (by simpa using CRel.bool r)⟩
    · simp only [Option.map_eq_some_iff] at h
      obtain ⟨r, hr, rfl⟩ := h
      exact ⟨_, eqBin_rel hE hx hy hr .neq (.inr rfl), .clean _ _ (by simpa using CRel.bool (!r))⟩
    · cases h

end
end Go.Am

/- Operations that change nothing, continued: conversions, slices, assertions, builds. No condition. -/
namespace Go.Am

section
variable {P : Program} {C : Conf} {S : St} {w0 : Base} {w : World} {N : Nat → Prop}

theorem isU8_spec {E : Env} (hE : EOk P E) {e : Nat} (h : isU8 E e = true) : P.underlying e = some (.int .u8) := by
  unfold isU8 at h
  split at h
  · rename_i t ht
    have := (hE.tt e t ht).kind
    split at h
    · rename_i hk; simpa only [hk] using this
    · cases h
  · cases h

theorem bytesOf_spec : ∀ {l : List PV} {bs : List Nat}, bytesOf l = some bs → l.length = bs.length ∧ (∀ i (h : i < l.length) (h' : i < bs.length), l[i] = .int .u8 (bs[i] : Int)) ∧ ∀ b ∈ bs, b < 256
  | [], bs, h => by simp [bytesOf] at h; subst h; simp
  | p :: r, bs, h => by
    unfold bytesOf at h
    split at h
    · rename_i h'; cases h'
    · rename_i n r' h'
      cases h'
      simp only [cond_eq_ite, Nat.blt_eq] at h
      split at h
      · rename_i hn
        simp only [Option.map_eq_some_iff] at h
        obtain ⟨bs', h1, rfl⟩ := h
        obtain ⟨h2, h3, h4⟩ := bytesOf_spec h1
        refine ⟨by simp [h2], fun i hi hi' => ?_, fun b hb => ?_⟩
        · cases i with
          | zero => rfl
          | succ i => simpa using h3 i (by simpa using hi) (by simpa using hi')
        · rcases List.mem_cons.1 hb with rfl | hb
          · exact hn
          · exact h4 b hb
      · cases h
    · cases h

theorem bytes_fold (bs : List Nat) (hb : ∀ b ∈ bs, b < 256) (s : ByteArray) :
    bytesL ((bs.map Int.ofNat).foldl (fun r n => r.push (UInt8.ofNat n.toNat)) s) = bytesL s ++ bs := by
  induction bs generalizing s with
  | nil => simp
  | cons b r ih =>
    have hb0 : b < 256 := hb b (by simp)
    simp only [List.map_cons, List.foldl_cons]
    rw [ih (fun x hx => hb x (by simp [hx]))]
    have : bytesL (s.push (UInt8.ofNat b)) = bytesL s ++ [b] := by
      simp [bytesL, ByteArray.push, Nat.mod_eq_of_lt hb0]
    simp [this]

/-- A row of bytes turned into a text. -/
theorem bytes_rel {a : Addr} {cap : Nat} {cells : List PV} {bs : List Nat} (hr : Reads C S (fun k => w.cell? (a.add k)) cells) (h : bytesOf cells = some bs) :
    ∃ s, (Conv.bytesToString (.slice (some a) cells.length cap)).run P w = .ok (.string s) w ∧ bytesL s = bs := by
  obtain ⟨h1, h2, h3⟩ := bytesOf_spec h
  have hl : (loadCells a cells.length).run P w = .ok ((bs.map Int.ofNat).map (Value.int .u8)).toArray w := by
    have := run_loadCells (P := P) w a cells.length (fun k => .int .u8 (bs.getD k 0 : Nat)) (fun j hj => by
      obtain ⟨u, hu, hv, _⟩ := hr j hj
      have hj' : j < bs.length := by omega
      rw [h2 j hj hj'] at hv
      rw [int_inv hv] at hu
      simpa [List.getD, hj'] using hu)
    rw [this]
    congr 2
    apply List.ext_getElem?
    intro i
    by_cases hi : i < cells.length
    · have hi' : i < bs.length := by omega
      simp [hi, hi', List.getD]
    · have hi' : bs.length ≤ i := by omega
      simp [hi, hi']
  refine ⟨_, run_bytesToString w a cells.length cap _ hl, ?_⟩
  rw [bytes_fold bs h3]
  rfl

theorem convert_rel {E : Env} (hE : EOk P E) (hw : WRel C S w0 N w) {s d : Nat} {p q : PV} {x : Value} (hx : VRel C S p x) (h : convRun E S s d p = some q) :
    ∃ u, (convert s d x).run P w = .ok u w ∧ VRel C S q u := by
  unfold convRun at h
  split at h
  · rename_i ts td hts htd
    have hs := (hE.tt s ts hts).kind
    have hd := (hE.tt d td htd).kind
    split at h
    · rename_i e k1 k2
      simp only [k1] at hs; simp only [k2] at hd
      simp only [cond_eq_ite] at h
      split at h
      · rename_i hu
        have he := isU8_spec hE hu
        simp at h; subst h
        obtain rfl := nilslice_inv hx
        refine ⟨.string .empty, by simp [convert, underlying, hs, hd, he, Conv.bytesToString], .clean _ _ (CRel.str .empty)⟩
      · cases h
    · rename_i e k n cells k1 k2
      simp only [k1] at hs; simp only [k2] at hd
      simp only [cond_eq_ite, Bool.and_eq_true, nat_beq] at h
      split at h
      · rename_i hu
        have he := isU8_spec hE hu.1
        simp only [Option.map_eq_some_iff] at h
        obtain ⟨bs, hbs, rfl⟩ := h
        obtain ⟨a, cap, vs, rfl, hn, ho, hss, hc, _, hsp⟩ := slice_inv hx
        have hr : Reads C S (fun k => w.cell? (a.add k)) cells := by
          rcases hsp with hsp | ⟨_, hsp⟩
          · obtain ⟨b, o, s⟩ := a
            cases hsp
            exact (Reads.clean ho (fun i hi => hw.sg _ _ _ (hss i hi)) hc).congr fun k _ => by rw [Addr.add_lit]
          · rw [hsp]; exact Reads.nil _
        obtain ⟨str, h1, h2⟩ := bytes_rel (P := P) (cap := cap) hr hbs
        rw [hu.2] at h1
        refine ⟨.string str, by rw [run_convert_bytes_string w s d e _ _ _ hs he hd]; exact h1, .clean _ _ ?_⟩
        rw [← h2]; exact .str str
      · cases h
    · rename_i e i off n wd k1 k2
      simp only [k1] at hs; simp only [k2] at hd
      simp only [cond_eq_ite, Bool.and_eq_true, nat_beq] at h
      split at h
      · rename_i hu
        have he := isU8_spec hE hu.1
        split at h
        · rename_i c hc
          simp only [Option.map_eq_some_iff] at h
          obtain ⟨bs, hbs, rfl⟩ := h
          obtain ⟨a, cap, b, rfl, hn, hi, hh, ha⟩ := ms_inv hx
          obtain ⟨hl, hr, b', hb', hlive⟩ := lookup_reads hw hc
          rw [hi] at hb'; cases hb'
          have hr' : Reads C S (fun k => w.cell? (a.add k)) c := by
            intro k hk
            have := (ha hlive (by omega)).1
            subst this
            simpa [Addr.add_lit] using hr k hk
          obtain ⟨str, h1, h2⟩ := bytes_rel (P := P) (cap := cap) hr' hbs
          rw [hl, hu.2] at h1
          refine ⟨.string str, by rw [run_convert_bytes_string w s d e _ _ _ hs he hd]; exact h1, .clean _ _ ?_⟩
          rw [← h2]; exact .str str
        · cases h
      · cases h
    · rename_i k k' k1 k2
      simp only [k1] at hs
      simp only [k2] at hd
      simp at h; subst h
      rw [int_inv hx, fwrap_eq]
      exact ⟨_, by simp [convert, underlying, hs, hd, Conv.intToInt], .clean _ _ (.int _ _)⟩
    · rename_i k1 k2
      simp only [k1] at hs
      simp only [k2] at hd
      simp at h; subst h
      obtain ⟨str, rfl, rfl⟩ := str_inv hx
      exact ⟨_, by simp [convert, underlying, hs, hd], .clean _ _ (.str _)⟩
    · rename_i k1 k2
      simp only [k1] at hs
      simp only [k2] at hd
      simp at h; subst h
      rw [int_inv hx]
      exact ⟨_, by simp [convert, underlying, hs, hd, Conv.intToString], .clean _ _ (.str _)⟩
    · cases h
  · cases h

theorem len_rel {E : Env} (hE : EOk P E) {t ty : Nat} {p q : PV} {x : Value} (hx : VRel C S p x) (h : lenRun E t p = some q) :
    ∃ u, (Builtin.len_ #[t] ty #[x]).run P w = .ok u w ∧ VRel C S q u := by
  unfold lenRun at h
  split at h
  · cases h
  · rename_i ti hti
    have ht := (hE.tt t ti hti).kind
    split at h
    · rename_i l hk
      simp only [hk] at ht
      simp at h; subst h
      obtain ⟨s, rfl, rfl⟩ := str_inv hx
      refine ⟨goInt s.size, by simp [Builtin.len_, underlying, ht], ?_⟩
      have : (bytesL s).length = s.size := by simp [bytesL]
      rw [this]; exact .clean _ _ (.int _ _)
    · rename_i e hk
      simp only [hk] at ht
      simp at h; subst h
      obtain rfl := nilslice_inv hx
      exact ⟨goInt 0, by simp [Builtin.len_, underlying, ht], .clean _ _ (.int _ _)⟩
    · rename_i e k n cells hk
      simp only [hk] at ht
      simp at h; subst h
      obtain ⟨a, cap, vs, rfl, _⟩ := slice_inv hx
      exact ⟨goInt n, by simp [Builtin.len_, underlying, ht], .clean _ _ (.int _ _)⟩
    · rename_i e i off n wd hk
      simp only [hk] at ht
      simp at h; subst h
      obtain ⟨a, cap, b, rfl, _⟩ := ms_inv hx
      exact ⟨goInt n, by simp [Builtin.len_, underlying, ht], .clean _ _ (.int _ _)⟩
    · rename_i n e hk
      simp only [hk] at ht
      simp at h; subst h
      exact ⟨goInt n, by cases x <;> simp [Builtin.len_, underlying, ht], .clean _ _ (.int _ _)⟩
    · cases h

end
end Go.Am

/- Operations that change nothing, continued: slices, assertions, builds. No condition. -/
namespace Go.Am

section
variable {P : Program} {C : Conf} {S : St} {w0 : Base} {w : World} {N : Nat → Prop}

/-- A bound: as it stands, or what it is where none stands. -/
def BV (o : Option Value) (d k : Nat) : Prop := (o = none ∧ k = d) ∨ ∃ kd, o = some (.int kd (k : Int))

theorem bound_rel {ev : Operand → Option PV} {ρ : Operand → Value} (hev : ∀ x p, ev x = some p → VRel C S p (ρ x)) {d k : Nat} {o : Option Operand} (h : bound ev d o = some k) : BV (o.map ρ) d k := by
  cases o with
  | none => simp [bound] at h; exact .inl ⟨rfl, h.symm⟩
  | some x =>
    simp only [bound] at h
    split at h
    · rename_i v hv
      obtain ⟨kd, hk⟩ := asNat_rel h (hev _ _ hv)
      exact .inr ⟨kd, by simp [hk]⟩
    · cases h

theorem sliceBounds_none (b : Bool) {n cap l h : Nat} {lo hi : Option Value} (hl : BV lo 0 l) (hh : BV hi n h) (h1 : l ≤ h) (h2 : h ≤ cap) :
    (Instr.sliceBounds b n cap lo hi none).run P w = .ok (l, h, cap) w := by
  rcases hl with ⟨rfl, rfl⟩ | ⟨kl, rfl⟩ <;> rcases hh with ⟨rfl, rfl⟩ | ⟨kh, rfl⟩ <;> simp [Instr.sliceBounds, run_sliceBound_if, h1, h2]

theorem sliceBounds_some (b : Bool) {n cap l h m : Nat} {lo hi : Option Value} {km : IntKind} (hl : BV lo 0 l) (hh : ∃ kh, hi = some (.int kh (h : Int))) (h1 : l ≤ h) (h2 : h ≤ m) (h3 : m ≤ cap) :
    (Instr.sliceBounds b n cap lo hi (some (.int km (m : Int)))).run P w = .ok (l, h, m) w := by
  obtain ⟨kh, rfl⟩ := hh
  rcases hl with ⟨rfl, rfl⟩ | ⟨kl, rfl⟩ <;> simp [Instr.sliceBounds, run_sliceBound_if, h1, h2, h3]

theorem bytesL_extract (s : ByteArray) (l h : Nat) (_h1 : l ≤ h) (h2 : h ≤ s.size) : bytesL (s.extract l h) = ((bytesL s).drop l).take (h - l) := by
  simp [bytesL, List.map_take, List.map_drop, Array.toList_extract]

theorem slice_rel {E : Env} (hE : EOk P E) (hw : WRel C S w0 N w) {ev : Operand → Option PV} {ρ : Operand → Value} (hev : ∀ x p, ev x = some p → VRel C S p (ρ x)) {t : Nat} {p q : PV} {x : Value} (hx : VRel C S p x)
    {lo hi mx : Option Operand} (h : sliceRun E S ev t p lo hi mx = some q) : ∃ u, (Instr.sliceAt t x (lo.map ρ) (hi.map ρ) (mx.map ρ)).run P w = .ok u w ∧ VRel C S q u := by
  unfold sliceRun at h
  split at h
  · cases h
  · rename_i ti hti
    have ht := (hE.tt t ti hti).kind
    split at h
    · rename_i l hk
      simp only [hk] at ht
      split at h
      · rename_i lw hh hlo hhi
        simp only [cond_eq_ite, Bool.and_eq_true, Nat.ble_eq] at h
        split at h
        · rename_i hle
          simp at h; subst h
          obtain ⟨s, rfl, rfl⟩ := str_inv hx
          have hsz : (bytesL s).length = s.size := by simp [bytesL]
          rw [hsz] at hhi hle
          have := sliceBounds_none (P := P) (w := w) false (bound_rel hev hlo) (bound_rel hev hhi) hle.1 hle.2
          refine ⟨.string (s.extract lw hh), by simp [Instr.sliceAt, Instr.slice, underlying, ht, this], .clean _ _ ?_⟩
          rw [← bytesL_extract s lw hh hle.1 hle.2]; exact .str _
        · cases h
      · cases h
    · rename_i e hk
      simp only [hk] at ht
      split at h
      · rename_i sz lw hh m hsz hlo hhi hmx
        simp only [cond_eq_ite, Bool.and_eq_true, nat_beq] at h
        split at h
        · rename_i hz
          obtain ⟨hz0, rfl, rfl, rfl⟩ := hz
          simp at h; subst h
          obtain rfl := nilslice_inv hx
          obtain ⟨eti, he, hes⟩ := sizeE_spec hE hsz
          have hso := he.sizeOf w
          cases mx with
          | none =>
            have := sliceBounds_none (P := P) (w := w) true (cap := 0) (bound_rel hev hlo) (bound_rel hev hhi) (Nat.le_refl _) (Nat.le_refl _)
            exact ⟨.slice none 0 0, by simp [Instr.sliceAt, Instr.slice, underlying, ht, this, hso], .clean _ _ .nilslice⟩
          | some mo =>
            rcases bound_rel hev hmx with ⟨hm0, _⟩ | ⟨km, hm⟩
            · cases hm0
            · cases hi with
              | none => simp at hz0
              | some ho' =>
                rcases bound_rel hev hhi with ⟨hh0, _⟩ | ⟨kh, hkh⟩
                · cases hh0
                · have := sliceBounds_some (P := P) (w := w) true (n := 0) (cap := 0) (m := 0) (km := km) (bound_rel hev hlo) ⟨kh, rfl⟩ (Nat.le_refl _) (Nat.le_refl _) (Nat.le_refl _)
                  rw [hm, hkh]
                  exact ⟨.slice none 0 0, by simp at this; simp [Instr.sliceAt, Instr.slice, underlying, ht, this, hso], .clean _ _ .nilslice⟩
        · cases h
      · cases h
    · rename_i e k n cells hk
      simp only [hk] at ht
      split at h
      · rename_i sz lw hh m hsz hlo hhi hmx
        simp only [cond_eq_ite, Bool.and_eq_true, Nat.ble_eq, nat_beq] at h
        split at h
        · rename_i hc
          obtain ⟨hc0, hc1, hc2, hc3, hc4⟩ := hc
          simp at h; subst h
          obtain ⟨eti, he, hes⟩ := sizeE_spec hE hsz
          have hso := he.sizeOf w
          rw [hes] at hso
          -- what is cut is a row
          have row : ∀ (b o c : Nat) (vs : Nat → Value) (c' : Nat) (a' : Addr), (∀ i (h : i < cells.length), cells[i].one = true) → (∀ i, i < cells.length → C.sg b (o + i) = some (vs i)) →
              (∀ i (h : i < cells.length), CRel C.sg cells[i] (vs i)) → (lw < hh → a' = ⟨b, o + lw * sz, none⟩) → (∃ b o, a' = ⟨b, o, none⟩) → hh - lw ≤ c' → c = c' →
              CRel C.sg (.slice .sh (hh - lw) ((cells.drop (lw * sz)).take ((hh - lw) * sz))) (.slice (some a') (hh - lw) c') ∧
              (c' = hh - lw → CRel C.sg (.slice .full (hh - lw) ((cells.drop (lw * sz)).take ((hh - lw) * sz))) (.slice (some a') (hh - lw) c')) := by
            intro b o c vs c' a' ho hs hcc ha ⟨b', o', ha'⟩ hle hcc'
            subst ha'
            have h1 : ∀ i, i < ((cells.drop (lw * sz)).take ((hh - lw) * sz)).length → lw < hh ∧ lw * sz + i < cells.length := by
              intro i hi
              simp only [List.length_take, List.length_drop] at hi
              refine ⟨?_, by omega⟩
              rcases Nat.lt_or_ge lw hh with h | h
              · exact h
              · have : hh - lw = 0 := by omega
                rw [this] at hi; simp at hi
            have g1 : ∀ i (h : i < ((cells.drop (lw * sz)).take ((hh - lw) * sz)).length), ((cells.drop (lw * sz)).take ((hh - lw) * sz))[i].one = true := fun i hi => by
              simpa using ho (lw * sz + i) (h1 i hi).2
            have g2 : ∀ i, i < ((cells.drop (lw * sz)).take ((hh - lw) * sz)).length → C.sg b' (o' + i) = some (vs (lw * sz + i)) := fun i hi => by
              have := ha (h1 i hi).1
              simp at this
              obtain ⟨rfl, rfl⟩ := this
              rw [Nat.add_assoc]
              exact hs _ (h1 i hi).2
            have g3 : ∀ i (h : i < ((cells.drop (lw * sz)).take ((hh - lw) * sz)).length), CRel C.sg ((cells.drop (lw * sz)).take ((hh - lw) * sz))[i] (vs (lw * sz + i)) := fun i hi => by
              simpa using hcc (lw * sz + i) (h1 i hi).2
            refine ⟨.sh _ _ b' o' c' _ hle g1 g2 g3, fun hcf => ?_⟩
            rw [hcf]
            exact .full _ _ b' o' _ g1 g2 g3
          have whole : lw = 0 → hh = n → (cells.drop (lw * sz)).take ((hh - lw) * sz) = cells := by
            intro e1 e2
            subst e1; subst e2
            simp [← hc4]
          cases mx with
          | none =>
            simp only [bound] at hmx
            simp at hmx; subst hmx
            obtain ⟨ad, cap, vs, rfl, hn, ho, hs, hcc, _, hsp⟩ := slice_inv hx
            have hb := sliceBounds_none (P := P) (w := w) true (cap := cap) (bound_rel hev hlo) (bound_rel hev hhi) hc1 (by omega)
            refine ⟨.slice (if cap = lw then some ad else some (ad.add (lw * sz))) (hh - lw) (cap - lw), by simp [Instr.sliceAt, Instr.slice, underlying, ht, hb, hso], ?_⟩
            simp only [sliceKind, cond_eq_ite, Bool.and_eq_true, nat_beq]
            by_cases hw : lw = 0 ∧ hh = n
            · rw [if_pos hw, whole hw.1 hw.2]
              obtain ⟨rfl, rfl⟩ := hw
              simpa [Addr.add_zero'] using hx
            · rw [if_neg hw]
              obtain ⟨b, o, s⟩ := ad
              have hsp' := hsp.resolve_right (fun h => hw (by omega))
              cases hsp'
              refine .clean _ _ ?_
              by_cases e1 : cap = lw
              · rw [if_pos e1]
                exact (row b o _ vs _ _ ho hs hcc (fun h => by omega) ⟨_, _, rfl⟩ (by omega) rfl).1
              · rw [if_neg e1, Addr.add_lit]
                exact (row b o _ vs _ _ ho hs hcc (fun _ => rfl) ⟨_, _, rfl⟩ (by omega) rfl).1
          | some mo =>
            have hmv := bound_rel hev hmx
            rcases hmv with ⟨hm0, _⟩ | ⟨km, hm⟩
            · cases hm0
            · cases hi with
              | none => simp at hc0
              | some ho' =>
                have hhv := bound_rel hev hhi
                rcases hhv with ⟨hh0, _⟩ | ⟨kh, hkh⟩
                · cases hh0
                · obtain ⟨ad, cap, vs, rfl, hn, ho, hs, hcc, _, hsp⟩ := slice_inv hx
                  have hb := sliceBounds_some (P := P) (w := w) true (n := n) (cap := cap) (km := km) (bound_rel hev hlo) ⟨kh, rfl⟩ hc1 hc2 (by omega)
                  rw [hm, hkh]
                  refine ⟨.slice (if m = lw then some ad else some (ad.add (lw * sz))) (hh - lw) (m - lw), by simp [Instr.sliceAt, Instr.slice, underlying, ht, hb, hso], ?_⟩
                  simp only [sliceKind, cond_eq_ite, nat_beq]
                  refine .clean _ _ ?_
                  rcases hsp with hsp | ⟨hn0, hcn⟩
                  rotate_left
                  · have q1 : m = 0 := by omega
                    have q2 : lw = 0 := by omega
                    have q3 : hh = 0 := by omega
                    subst q1; subst q2; subst q3; subst hcn
                    simpa using CRel.fulle ad
                  obtain ⟨b, o, s⟩ := ad
                  cases hsp
                  by_cases e1 : m = lw
                  · rw [if_pos e1]
                    have := row b o _ vs _ (⟨b, o, none⟩ : Addr) ho hs hcc (fun h => by omega) ⟨_, _, rfl⟩ (by omega : hh - lw ≤ m - lw) rfl
                    split
                    · exact this.2 (by omega)
                    · exact this.1
                  · rw [if_neg e1, Addr.add_lit]
                    have := row b o _ vs _ (⟨b, o + lw * sz, none⟩ : Addr) ho hs hcc (fun _ => rfl) ⟨_, _, rfl⟩ (by omega : hh - lw ≤ m - lw) rfl
                    split
                    · exact this.2 (by omega)
                    · exact this.1
        · cases h
      · cases h
    · rename_i e i off n wd hk
      simp only [hk] at ht
      split at h
      · rename_i sz lw hh hsz hlo hhi
        simp only [cond_eq_ite, Bool.and_eq_true, Nat.ble_eq, nat_beq] at h
        split at h
        · rename_i hc
          simp at h; subst h
          obtain ⟨eti, he, hes⟩ := sizeE_spec hE hsz
          have hso := he.sizeOf w
          rw [hes] at hso
          obtain ⟨a, cap, b, rfl, hn, hi', hh', ha⟩ := ms_inv hx
          have hb := sliceBounds_none (P := P) (w := w) true (cap := cap) (bound_rel hev hlo) (bound_rel hev hhi) hc.1 (by omega)
          refine ⟨.slice (if cap = lw then some a else some (a.add (lw * sz))) (hh - lw) (cap - lw), by simp [Instr.sliceAt, Instr.slice, underlying, ht, hb, hso], ?_⟩
          by_cases e1 : cap = lw
          · rw [if_pos e1]
            exact .ms i _ _ _ a _ b hi' hh' (by omega) (fun _ h => by omega)
          · rw [if_neg e1]
            refine .ms i _ _ _ _ _ b hi' hh' (by omega) (fun hl h => ?_)
            obtain ⟨rfl, z, hz1, hz2⟩ := ha hl (by omega)
            have hz : z = sz := Nat.eq_of_mul_eq_mul_left (by omega : 0 < n) (hz1.symm.trans hc.2.2)
            subst hz
            refine ⟨Addr.add_lit _ _ _, z, rfl, ?_⟩
            have : lw * z + (cap - lw) * z = cap * z := by rw [← Nat.add_mul]; congr 1; omega
            omega
        · cases h
      · cases h
    · rename_i n e i off hk
      simp only [hk] at ht
      split at h
      · rename_i sz lw hh hsz hlo hhi
        split at h
        · rename_i cc hcc
          simp only [cond_eq_ite, Bool.and_eq_true, Nat.ble_eq] at h
          split at h
          · rename_i hc
            simp at h; subst h
            obtain ⟨eti, he, hes⟩ := sizeE_spec hE hsz
            have hso := he.sizeOf w
            rw [hes] at hso
            cases hx with
            | clean _ _ hx => cases hx
            | ptr _ _ a b hi' hh' ha =>
              have hb := sliceBounds_none (P := P) (w := w) false (n := n) (cap := n) (bound_rel hev hlo) (bound_rel hev hhi) hc.1 hc.2
              refine ⟨.slice (some (if n = lw then a else a.add (lw * sz))) (hh - lw) (n - lw), by simp [Instr.sliceAt, underlying, ht, hb, hso, Instr.sureAddr], ?_⟩
              by_cases e1 : n = lw
              · rw [if_pos e1]
                exact .ms i _ _ _ a _ b hi' hh' (by omega) (fun _ h => by omega)
              · rw [if_neg e1]
                refine .ms i _ _ _ _ _ b hi' hh' (by omega) (fun hl h => ?_)
                refine ⟨by rw [ha hl, Addr.add_lit], sz, rfl, ?_⟩
                have : lw * sz + (n - lw) * sz = n * sz := by rw [← Nat.add_mul]; congr 1; omega
                have := lookup_fits hw hcc hi' hl
                omega
          · cases h
        · cases h
      · cases h
    · cases h

end
end Go.Am

/- Operations that change nothing, continued: assertions, least and greatest, builds. No condition. -/
namespace Go.Am

section
variable {P : Program} {C : Conf} {S : St} {w0 : Base} {w : World} {N : Nat → Prop}

theorem vrel_tup2 {p q : PV} {x y : Value} (hp : VRel C S p x) (hq : VRel C S q y) : VRel C S (.tup [p, q]) (.tuple #[x, y]) := by
  refine .tup _ _ (fun i => if i = 0 then x else y) rfl (fun i hi => ?_) (fun i hi => ?_)
  · simp at hi
    match i, hi with
    | 0, _ => rfl
    | 1, _ => rfl
  · simp at hi
    match i, hi with
    | 0, _ => exact hp
    | 1, _ => exact hq

theorem zero_rel {t : Nat} {ti : TI} (ht : TIok P t ti) {z : PV} (h : ofAgg ti.agg ti.zero = some z) : ∃ v, (∀ w, (zeroValue t).run P w = .ok v w) ∧ VRel C S z v := by
  obtain ⟨v, h1, h2, h3⟩ := ht.zeroValue
  obtain ⟨hl, hr⟩ := ofCells_reads (C := C) (S := S) h2
  refine ⟨v, h1, ?_⟩
  unfold ofAgg at h
  cases ha : ti.agg with
  | true =>
    obtain ⟨cs, rfl⟩ := h3.1 ha
    simp [ha] at h; subst h
    exact Reads.toAgg hr (by simpa [Value.cells] using hl.symm)
  | false =>
    have hnot : ¬ ∃ cs, v = .agg cs := fun h => by have := h3.2 h; rw [ha] at this; cases this
    simp only [ha, cond_false] at h
    split at h
    · rename_i x hx
      simp at h; subst h
      have hv : v.cells = #[v] := by cases v <;> first | rfl | exact absurd ⟨_, rfl⟩ hnot
      rw [hx, hv] at hr
      obtain ⟨u, h4, h5, _⟩ := hr 0 (by simp)
      simp at h4; subst h4
      simpa using h5
    · cases h

theorem assert_rel {E : Env} (hE : EOk P E) {t xt : Nat} {comma : Bool} {p q : PV} {x : Value} (hx : VRel C S p x) (h : assertRun E t comma p = some q) :
    ∃ u, (Instr.typeAssert x xt t comma).run P w = .ok u w ∧ VRel C S q u := by
  unfold assertRun at h
  split at h
  · cases h
  · rename_i ti hti
    have htok := hE.tt t ti hti
    obtain ⟨d, hd⟩ := htok.desc
    have ht := htok.kind
    have hni : (∀ n, ti.kind ≠ .iface n) → ∀ ms, d ≠ .interface ms := by
      intro hk ms he
      subst he
      cases hkk : ti.kind <;> simp only [hkk, hd] at ht hk <;> first | exact hk _ rfl | (obtain ⟨_, h, _⟩ := ht; cases h; done) | (obtain ⟨_, _, _, h⟩ := ht; cases h; done) | (obtain ⟨_, h⟩ := ht; cases h; done) | (cases ht; done)
    split at h
    · cases h
    · rename_i hk
      have hni := hni (fun n hn => by first | exact hk n hn | exact hk _ _ hn rfl | simp_all)
      simp only [cond_eq_ite] at h
      split at h
      · rename_i hc
        split at h
        · rename_i z hz
          simp at h; subst h
          obtain rfl := niliface_inv hx
          obtain ⟨v, hv1, hv2⟩ := zero_rel (C := C) (S := S) htok hz
          refine ⟨.tuple #[v, .bool false], ?_, vrel_tup2 hv2 (.clean _ _ (.bool _))⟩
          cases d <;> first | (exact absurd rfl (hni _)) | simp [Instr.typeAssert, underlying, hd, hc, hv1]
        · cases h
      · cases h
    · rename_i tt v hk
      have hni := hni (fun n hn => by first | exact hk n hn | exact hk _ _ hn rfl | simp_all)
      obtain ⟨y, rfl, hy⟩ := iface_inv hx
      simp only [cond_eq_ite, nat_beq] at h
      split at h
      · rename_i hte
        subst hte
        simp at h; subst h
        cases comma with
        | true =>
          refine ⟨.tuple #[y, .bool true], ?_, by simpa using vrel_tup2 (.clean _ _ hy) (.clean _ _ (.bool _))⟩
          cases d <;> first | (exact absurd rfl (hni _)) | simp [Instr.typeAssert, underlying, hd]
        | false =>
          refine ⟨y, ?_, by simpa using .clean _ _ hy⟩
          cases d <;> first | (exact absurd rfl (hni _)) | simp [Instr.typeAssert, underlying, hd]
      · rename_i hte
        split at h
        · rename_i hc
          split at h
          · rename_i z hz
            simp at h; subst h
            obtain ⟨v, hv1, hv2⟩ := zero_rel (C := C) (S := S) htok hz
            refine ⟨.tuple #[v, .bool false], ?_, vrel_tup2 hv2 (.clean _ _ (.bool _))⟩
            cases d <;> first | (exact absurd rfl (hni _)) | simp [Instr.typeAssert, underlying, hd, hc, hte, hv1]
          · cases h
        · cases h
    · cases h

theorem minmax_rel (mx : Bool) : ∀ (ps : List PV) (k : IntKind) (n : Int) (q : PV) (vs : List Value), ps.length = vs.length → (∀ i (h : i < ps.length) (h' : i < vs.length), VRel C S ps[i] vs[i]) →
    minmax mx (.int k n) ps = some q → ∃ u, (vs.foldlM (if mx then Builtin.max2 else Builtin.min2) (.int k n)).run P w = .ok u w ∧ VRel C S q u
  | [], k, n, q, [], _, _, h => by simp [minmax] at h; subst h; exact ⟨.int k n, by simp, .clean _ _ (.int _ _)⟩
  | [], _, _, _, _ :: _, hl, _, _ => by simp at hl
  | _ :: _, _, _, _, [], hl, _, _ => by simp at hl
  | p :: ps, k, n, q, v :: vs, hl, hr, h => by
    cases p <;> simp only [minmax, reduceCtorEq] at h
    rename_i k' m
    simp only [cond_eq_ite] at h
    split at h
    · rename_i hk
      obtain rfl := kindEq_iff hk
      have hv := int_inv (hr 0 (by simp) (by simp))
      simp at hv; subst hv
      obtain ⟨u, hu, hq⟩ := minmax_rel mx ps k _ q vs (by simpa using hl) (fun i hi hi' => hr (i + 1) (Nat.succ_lt_succ hi) (Nat.succ_lt_succ hi')) h
      refine ⟨u, ?_, hq⟩
      cases mx <;> simp_all [Builtin.max2, Builtin.min2]
    · cases h

theorem splice_get {α : Type} (l vs : List α) (off k : Nat) (_h : off + vs.length ≤ l.length) : (l.take off ++ vs ++ l.drop (off + vs.length))[k]? = if off ≤ k ∧ k < off + vs.length then vs[k - off]? else l[k]? := by
  by_cases h1 : k < off
  · rw [if_neg (by omega), List.append_assoc, List.getElem?_append_left (by simp; omega)]
    simp [h1]
  · by_cases h2 : k < off + vs.length
    · rw [if_pos (by omega), List.append_assoc, List.getElem?_append_right (by simp; omega), List.getElem?_append_left (by simp; omega)]
      simp; congr 1; omega
    · rw [if_neg (by omega), List.getElem?_append_right (by simp; omega)]
      simp; congr 1; omega

theorem fold_set (off : Nat) : ∀ (vs : List Value) (j : Nat) (cs : Array Value), (((vs.zipIdx j).foldl (fun cs x => cs.setIfInBounds (off + x.2) x.1) cs).size = cs.size) ∧
    (off + j + vs.length ≤ cs.size → ∀ k, ((vs.zipIdx j).foldl (fun cs x => cs.setIfInBounds (off + x.2) x.1) cs)[k]? = if off + j ≤ k ∧ k < off + j + vs.length then vs[k - (off + j)]? else cs[k]?)
  | [], j, cs => ⟨rfl, fun _ k => by rw [if_neg (by simp only [List.length_nil]; omega)]; rfl⟩
  | v :: vs, j, cs => by
    obtain ⟨h1, h2⟩ := fold_set off vs (j + 1) (cs.setIfInBounds (off + j) v)
    simp only [List.zipIdx_cons, List.foldl_cons]
    refine ⟨by rw [h1]; simp, fun hl k => ?_⟩
    simp only [List.length_cons] at hl
    rw [h2 (by simp; omega)]
    by_cases e : k = off + j
    · subst e
      rw [if_neg (by omega), if_pos (by simp)]
      simp [show off + j < cs.size by omega]
    · by_cases e2 : off + j ≤ k ∧ k < off + j + (vs.length + 1)
      · rw [if_pos (by omega), if_pos (by simpa using e2)]
        have : k - (off + j) = (k - (off + (j + 1))) + 1 := by omega
        rw [this]; simp
      · rw [if_neg (by omega), if_neg (by simpa using e2), Array.getElem?_setIfInBounds_ne (by omega)]

theorem fill_rel {pl : Nat → Option (Nat × Nat)} {pl' : Nat → Option (Nat × Nat)} (hpl : ∀ i x, pl i = some x → pl' i = some x) :
    ∀ (ps : List (Nat × PV)) (vs : List (Nat × Value)) (l l' : List PV) (cs : Array Value), ps.length = vs.length → (∀ i (h : i < ps.length) (h' : i < vs.length), ps[i].1 = vs[i].1 ∧ VRel C S ps[i].2 vs[i].2) →
    cs.size = l.length → Reads C S (fun k => cs[k]?) l → fillL pl l ps = some l' → ∃ cs', Instr.fill pl' cs vs = some cs' ∧ cs'.size = l'.length ∧ l'.length = l.length ∧ Reads C S (fun k => cs'[k]?) l'
  | [], [], l, l', cs, _, _, hs, hr, h => by simp [fillL] at h; subst h; exact ⟨cs, rfl, hs, rfl, hr⟩
  | [], _ :: _, _, _, _, hl, _, _, _, _ => by simp at hl
  | _ :: _, [], _, _, _, hl, _, _, _, _ => by simp at hl
  | (i, p) :: ps, (i', v) :: vs, l, l', cs, hl, hpv, hs, hr, h => by
    obtain ⟨h1, h2⟩ := hpv 0 (by simp) (by simp)
    simp at h1 h2
    subst h1
    simp only [fillL] at h
    split at h
    · cases h
    · rename_i off size hp
      simp only [cond_eq_ite, Bool.and_eq_true, nat_beq, Nat.ble_eq] at h
      split at h
      · rename_i hc
        obtain ⟨hf, hsz, hle⟩ := hc
        obtain ⟨h3, h4⟩ := h2.reads hf
        have hv : v.cells.size = size := by omega
        obtain ⟨hfs, hfg⟩ := fold_set off v.cells.toList 0 cs
        simp only [Nat.add_zero, Array.length_toList] at hfg
        have hfg := hfg (by omega)
        have hlen : (splice l off p.cells).length = l.length := by simp [splice]; omega
        have := fill_rel hpl ps vs (splice l off p.cells) l' ((v.cells.toList.zipIdx 0).foldl (fun cs x => cs.setIfInBounds (off + x.2) x.1) cs) (by simpa using hl)
          (fun j hj hj' => hpv (j + 1) (Nat.succ_lt_succ hj) (Nat.succ_lt_succ hj')) (by rw [hfs, hlen, hs]) (fun k hk => ?_) h
        · obtain ⟨cs', g1, g2, g3, g4⟩ := this
          refine ⟨cs', ?_, g2, by rw [g3, hlen], g4⟩
          have hz : (v.cells.zipIdx.foldl (fun cs x => cs.setIfInBounds (off + x.2) x.1) cs) = ((v.cells.toList.zipIdx 0).foldl (fun cs x => cs.setIfInBounds (off + x.2) x.1) cs) := by
            rw [← Array.foldl_toList]; simp
          simp only [Instr.fill, hpl _ _ hp]
          rw [if_neg (by simp; omega)]
          rw [← hz] at g1
          exact g1
        · rw [hlen] at hk
          have hsp := splice_get l p.cells off k (by omega)
          by_cases e : off ≤ k ∧ k < off + p.cells.length
          · obtain ⟨u, g1, g2, g3⟩ := h4 (k - off) (by omega)
            simp only at g1
            rw [if_pos e] at hsp
            have hk2 : k - off < p.cells.length := by omega
            have hget : (splice l off p.cells)[k]'(by rw [hlen]; exact hk) = p.cells[k - off] := by
              have : (splice l off p.cells)[k]? = some (p.cells[k - off]) := by rw [splice, hsp]; simp [hk2]
              simpa [hlen, hk] using this
            refine ⟨u, ?_, by rw [hget]; exact g2, by rw [hget]; exact g3⟩
            show ((v.cells.toList.zipIdx 0).foldl (fun cs x => cs.setIfInBounds (off + x.2) x.1) cs)[k]? = some u
            rw [hfg, if_pos (by omega)]
            simpa using g1
          · obtain ⟨u, g1, g2, g3⟩ := hr k hk
            simp only at g1
            rw [if_neg e] at hsp
            have hget : (splice l off p.cells)[k]'(by rw [hlen]; exact hk) = l[k] := by
              have : (splice l off p.cells)[k]? = some (l[k]) := by rw [splice, hsp]; simp [hk]
              simpa [hlen, hk] using this
            refine ⟨u, ?_, by rw [hget]; exact g2, by rw [hget]; exact g3⟩
            show ((v.cells.toList.zipIdx 0).foldl (fun cs x => cs.setIfInBounds (off + x.2) x.1) cs)[k]? = some u
            rw [hfg, if_neg (by omega)]
            exact g1
      · cases h

theorem evParts_rel {ev : Operand → Option PV} {ρ : Operand → Value} (hev : ∀ x p, ev x = some p → VRel C S p (ρ x)) : ∀ {l : List (Nat × Operand)} {ps : List (Nat × PV)}, evParts ev l = some ps →
    ps.length = l.length ∧ ∀ i (h : i < ps.length) (h' : i < (l.map fun x => (x.1, ρ x.2)).length), ps[i].1 = (l.map fun x => (x.1, ρ x.2))[i].1 ∧ VRel C S ps[i].2 (l.map fun x => (x.1, ρ x.2))[i].2
  | [], ps, h => by simp [evParts] at h; subst h; simp
  | (j, x) :: r, ps, h => by
    simp only [evParts] at h
    split at h
    · rename_i v vs hv hvs
      simp at h; subst h
      obtain ⟨h1, h2⟩ := evParts_rel hev hvs
      refine ⟨by simp [h1], fun i hi hi' => ?_⟩
      cases i with
      | zero => exact ⟨rfl, by simpa using hev _ _ hv⟩
      | succ i => exact h2 i (Nat.lt_of_succ_lt_succ hi) (Nat.lt_of_succ_lt_succ hi')
    · cases h

theorem evArgs_rel {ev : Operand → Option PV} {ρ : Operand → Value} (hev : ∀ x p, ev x = some p → VRel C S p (ρ x)) : ∀ {l : List Operand} {ps : List PV}, evArgs ev l = some ps →
    ps.length = l.length ∧ ∀ i (h : i < ps.length) (h' : i < (l.map ρ).length), VRel C S ps[i] (l.map ρ)[i]
  | [], ps, h => by simp [evArgs] at h; subst h; simp
  | x :: r, ps, h => by
    simp only [evArgs] at h
    split at h
    · rename_i v vs hv hvs
      simp at h; subst h
      obtain ⟨h1, h2⟩ := evArgs_rel hev hvs
      refine ⟨by simp [h1], fun i hi hi' => ?_⟩
      cases i with
      | zero => simpa using hev _ _ hv
      | succ i => exact h2 i (Nat.lt_of_succ_lt_succ hi) (Nat.lt_of_succ_lt_succ hi')
    · cases h

theorem places_ok {E : Env} (hE : EOk P E) : ∀ {F : List Field}, (∀ f ∈ F, (P.info? f.type).isSome = true) → ∃ places, F.mapM (fun f => (P.info? f.type).map fun i => (f.offset, i.size)) = some places ∧
    ∀ i x, placeOf E (F.map fun f => (f.offset, f.type)) i = some x → places[i]? = some x
  | [], _ => ⟨[], rfl, fun i x h => by simp [placeOf] at h⟩
  | f :: F, h => by
    obtain ⟨pl, h1, h2⟩ := places_ok hE (F := F) (fun g hg => h g (by simp [hg]))
    obtain ⟨i, hi⟩ := Option.isSome_iff_exists.1 (h f (by simp))
    refine ⟨(f.offset, i.size) :: pl, by simp [List.mapM_cons, hi, h1], fun k x hx => ?_⟩
    cases k with
    | zero =>
      obtain ⟨t, g1, g2⟩ := placeOf_spec (off := x.1) (s := x.2) hx
      simp at g1
      obtain ⟨ti, g3, g4⟩ := sizeE_spec hE g2
      obtain ⟨i', _, g5, g6, _⟩ := g3.info
      rw [← g1.2, hi] at g5; cases g5
      simp
      rw [g1.1, g6, g4]
    | succ k =>
      have := h2 k x (by simpa [placeOf] using hx)
      simpa using this

theorem build_rel {E : Env} (hE : EOk P E) {ev : Operand → Option PV} {ρ : Operand → Value} (hev : ∀ x p, ev x = some p → VRel C S p (ρ x)) {t : Nat} {ti : TI} (ht : TIok P t ti) {parts : Array (Nat × Operand)} {ps : List (Nat × PV)}
    (hps : evParts ev parts.toList = some ps) {cs : List PV}
    (h : (∃ fs, ti.kind = .struct fs ∧ fillL (placeOf E fs) ti.zero ps = some cs) ∨ (∃ n e sz, ti.kind = .arr n e ∧ sizeE E e = some sz ∧ fillL (fun i => some (i * sz, sz)) ti.zero ps = some cs)) :
    ∃ u, (Instr.build t (parts.map fun x => (x.1, ρ x.2))).run P w = .ok u w ∧ VRel C S (.agg cs) u := by
  obtain ⟨h1, h2⟩ := evParts_rel hev hps
  obtain ⟨i, z, hi, hsz, _, hz, hoc, _, _, _⟩ := ht.info
  obtain ⟨hl, hr⟩ := ofCells_reads (C := C) (S := S) hoc
  have hlist : (parts.map fun x => (x.1, ρ x.2)).toList = parts.toList.map fun x => (x.1, ρ x.2) := by simp
  have hkind := ht.kind
  rcases h with ⟨fs, hk, hf⟩ | ⟨n, e, sz, hk, hse, hf⟩
  · simp only [hk] at hkind
    obtain ⟨F, hu, hF, hsome⟩ := hkind
    obtain ⟨places, hpl, hpl2⟩ := places_ok hE hsome
    rw [hF] at hpl2
    obtain ⟨cs', g1, g2, _, g4⟩ := fill_rel (pl' := (places.toArray[·]?)) (fun i x hx => by simpa using hpl2 i x hx) ps (parts.toList.map fun x => (x.1, ρ x.2)) ti.zero cs z.cells (by simp [h1]) h2 hl.symm hr hf
    refine ⟨.agg cs', run_build w t _ cs' ?_, Reads.toAgg g4 g2⟩
    unfold Program.built
    rw [hlist]
    simp only [hi, hu, hz, hpl]
    exact g1
  · simp only [hk] at hkind
    obtain ⟨eti, he, hes⟩ := sizeE_spec hE hse
    obtain ⟨ei, _, hei, hesz, _⟩ := he.info
    obtain ⟨cs', g1, g2, _, g4⟩ := fill_rel (pl' := fun i => some (i * ei.size, ei.size)) (fun i x hx => by rw [hesz, hes]; exact hx) ps (parts.toList.map fun x => (x.1, ρ x.2)) ti.zero cs z.cells (by simp [h1]) h2 hl.symm hr hf
    refine ⟨.agg cs', run_build w t _ cs' ?_, Reads.toAgg g4 g2⟩
    unfold Program.built
    rw [hlist]
    simp only [hi, hkind, hz, hei]
    exact g1

end
end Go.Am
