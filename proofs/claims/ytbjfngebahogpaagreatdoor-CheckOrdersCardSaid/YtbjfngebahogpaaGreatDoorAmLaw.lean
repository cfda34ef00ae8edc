/- From what the machine answers to a law's row. No condition. -/
import Derived.Test.YtbjfngebahogpaaGreatDoorAmG
import Derived.Deep.DeepHandedRow
import Derived.RowKit3
import Derived.OpenShut
import Derived.WideKeyArgs
import Derived.Lib.LaidTab
namespace Go.Am

section
variable {H : Type} {enc : TypeId × Value → H} {P : Program} {E : Env} {w : World} {g : Nat → Bool}

/-- An argument of a type that is made of parts, or of one that is not. -/
def argPV (agg : Bool) (l : List PV) : PV := bif agg then .agg l else l.headD undef

def aggT (P : Program) (t : Nat) : Bool :=
  match P.underlying t with
  | some (.struct _) => true
  | some (.array _ _) => true
  | _ => false

theorem arg_rel {t : Nat} {v : Value} {d : DataW H} {base : Nat} (hg : ∀ t, g t = true → rowOk P g t = true) (hgt : g t = true) (hgot : Got P w t v.cells.toList d) (hok : Value.okWide P w .any base t v) :
    CRel (sgOf w) (argPV (aggT P t) (pvD d)) v := by
  obtain ⟨_, h2, _⟩ := hgot
  unfold Value.okWide at hok
  have hr := hg t hgt
  unfold rowOk at hr
  have whole : (∃ cs, v = .agg cs) → CRel (sgOf w) (.agg (pvD d)) v := by
    rintro ⟨cs, rfl⟩
    have hl : (pvD d).length = cs.size := by simpa [Value.cells] using h2.1
    refine .agg _ _ (fun i => cs.getD i Go.undef) hl.symm (fun i hi => ?_) (fun i hi => ?_) (fun i hi => ?_)
    · have hi' : i < cs.size := by omega
      exact (h2.2 i (pvD d)[i] cs[i] (by simp [hi]) (by simp [Value.cells, hi'])).2
    · have hi' : i < cs.size := by omega
      simp [Array.getD_eq_getD_getElem?, hi']
    · have hi' : i < cs.size := by omega
      have := (h2.2 i (pvD d)[i] cs[i] (by simp [hi]) (by simp [Value.cells, hi'])).1
      simpa [Array.getD_eq_getD_getElem?, hi'] using this
  have single : v.cells = #[v] → CRel (sgOf w) ((pvD d).headD undef) v := by
    intro hv
    rw [hv] at h2
    have hl : (pvD d).length = 1 := by simpa using h2.1
    match hd : pvD d, hl with
    | [p], _ =>
      rw [hd] at h2
      exact (h2.2 0 p v rfl rfl).1
  unfold aggT argPV
  cases hu : P.underlying t with
  | none => rw [hu] at hr; cases hr
  | some D =>
    rw [hu] at hr hok
    cases D <;> simp only [reduceCtorEq] at hr <;> dsimp only at hok ⊢ <;> simp only [cond_true, cond_false]
    case struct F => obtain ⟨cs, h, _⟩ := hok; exact whole ⟨cs, h⟩
    case array n e => obtain ⟨cs, h, _⟩ := hok; exact whole ⟨cs, h⟩
    all_goals
      refine single ?_
      unfold Cell.okWide at hok
      rw [hu] at hok
      cases v <;> first | rfl | (simp [Cell.ok, hu] at hok; done)

/-- The arguments, as the machine's values. -/
def argsPV (P : Program) : List Nat → List (DataW H) → List PV
  | t :: ts, d :: ds => argPV (aggT P t) (pvD d) :: argsPV P ts ds
  | _, _ => []

theorem args_rel (hg : ∀ t, g t = true → rowOk P g t = true) {base : Nat} : ∀ {ts : List Nat} {vs : List Value} {ds : List (DataW H)} {ps : List MemPlace}, ts.all g = true →
    DataW.TrodAll enc P w 0 (fun _ => true) true ts vs ds ps → (∀ (j : Nat) t v, ts[j]? = some t → vs[j]? = some v → Value.okWide P w .any base t v) →
    (argsPV P ts ds).length = vs.length ∧ (∀ (i : Nat) p v, (argsPV P ts ds)[i]? = some p → vs[i]? = some v → CRel (sgOf w) p v) ∧ ds.length = ts.length ∧
      (∀ (i : Nat) t d, ts[i]? = some t → ds[i]? = some d → Shape P t (pvD d)) ∧ PV.wt.wts (pvL ds) ≤ bulkL ds
  | [], [], [], ps, _, _, _ => ⟨rfl, fun i p v h => by simp [argsPV] at h, rfl, fun i t d h => by simp at h, by simp [pvL, PV.wt.wts, bulkL]⟩
  | t :: ts, v :: vs, d :: ds, ps, hgs, ht, hok => by
    obtain ⟨p, q, ⟨fuel, h1⟩, h2, _⟩ := ht
    simp only [List.all_cons, Bool.and_eq_true] at hgs
    have hgot := (trod_got hg fuel t v.cells.toList d p hgs.1 h1).2
    obtain ⟨r1, r2, r3, r4, r5⟩ := args_rel hg (base := base) hgs.2 h2 fun j t v h h' => hok (j + 1) t v (by simpa using h) (by simpa using h')
    refine ⟨by simp [argsPV, r1], fun i p u hp hu => ?_, by simp [r3], fun i t' d' h h' => ?_, ?_⟩
    · cases i with
      | zero =>
        simp [argsPV] at hp hu
        subst hp; subst hu
        exact arg_rel hg hgs.1 hgot (hok 0 t v rfl rfl)
      | succ i => exact r2 i p u (by simpa [argsPV] using hp) (by simpa using hu)
    · cases i with
      | zero => simp at h h'; subst h; subst h'; exact hgot.1
      | succ i => exact r4 i t' d' (by simpa using h) (by simpa using h')
    · simp only [pvL, wts_append, bulkL]
      have := hgot.2.2
      omega
  | [], _ :: _, _, _, _, h, _ => by simp [DataW.TrodAll] at h
  | [], [], _ :: _, _, _, h, _ => by simp [DataW.TrodAll] at h
  | _ :: _, [], _, _, _, h, _ => by simp [DataW.TrodAll] at h
  | _ :: _, _ :: _, [], _, _, h, _ => by simp [DataW.TrodAll] at h

/-- Where a law's call begins. -/
theorem begin_rel (w : World) : WRel ⟨sgOf w, fun _ => 0, fun _ => 0, fun _ => Go.undef⟩ St.empty (baseOf w (sgOf w) (fun _ => False)) (fun _ => False) w where
  sg := fun b k v h => h
  cells i t l h := by simp [St.empty] at h
  ro i l h := by simp [St.empty] at h
  iter i l p h := by simp [St.empty] at h
  inj i j b b' h := by simp [St.empty] at h
  sep i b h := by simp [St.empty] at h
  ids g l e h := by simp [St.empty] at h
  idinj g g' x x' b b' o o' n n' c c' h := by simp [St.empty] at h
  size := Nat.le_refl _
  keep _ _ _ := rfl
  ownN i b h := by simp [St.empty] at h
  idN g x b o n c h := by simp [St.empty] at h
  known b k v h := .inl h
  hole i h := h.elim
  still := ⟨rfl, rfl⟩

/-- Memory that was there is as it was. -/
structure Kept (w w' : World) : Prop where
  heap : ∀ i, i < w.heap.size → w'.heap[i]? = w.heap[i]?
  size : w.heap.size ≤ w'.heap.size
  still : Still w w'

/-- What the machine answers, the program answers; memory that was there is as it was. -/
theorem law_calls {f : Nat} {vs : Array Value} {ps : List PV} {b : Bool} {S' : St} (hs : CallOK P E (callW E)) (henter : (callFunc f vs).run P w = .ok (.enter f vs) w) (hglob : GRel E (sgOf w)) (hlen : ps.length = vs.size)
    (hargs : ∀ (i : Nat) p v, ps[i]? = some p → vs.toList[i]? = some v → CRel (sgOf w) p v) (h : callW E f ps St.empty = some (.bool b, S')) :
    Calls P f vs w fun e w' => e = .returned (.bool b) ∧ Kept w w' := by
  have ha : ARel ⟨sgOf w, fun _ => 0, fun _ => 0, fun _ => Go.undef⟩ St.empty ps vs := by
    refine ⟨hlen, fun i h1 h2 => .clean _ _ (hargs i _ _ (by simp [h1]) (by simp [h2]))⟩
  have hg := hs f ps St.empty (.bool b) S' h _ _ _ w vs hglob (begin_rel w) ha
  rw [henter] at hg
  have hg' : Calls P f vs w _ := hg
  refine hg'.mono ?_
  rintro e w' ⟨v, rfl, C', x, hv, W⟩
  have hv' : v = .bool b := by
    cases hv with
    | clean _ _ hv => cases hv; rfl
  subst hv'
  exact ⟨rfl, fun i hi => W.keep i hi fun h => h, W.size, W.still⟩

theorem Kept.keptBut {w w' : World} (h : Kept w w') (may : MemPlace → Prop) : w.keptBut w' may := by
  refine ⟨h.still.1, h.still.2, fun i hi => ?_⟩
  rw [h.heap i hi]
  cases hh : w.heap[i]? with
  | none => rfl
  | some o => cases o <;> first | exact ⟨rfl, rfl, rfl, fun _ _ => rfl⟩ | exact .inr ⟨rfl, rfl⟩ | rfl

theorem Kept.same {w w' : World} (h : Kept w w') {p : MemPlace} (hp : p.block < w.heap.size) : w.sameAt w' p := by
  cases p with
  | cell b o => exact World.cell?_of_block (w := w) (h.heap b hp)
  | map b => exact h.heap b hp

theorem trodAll_kept {w w' : World} (hl : laidOutB P = true) (h : Kept w w') {sp : Nat → Bool} : ∀ {ts : List TypeId} {vs : List Value} {ds : List (DataW H)} {ps : List MemPlace},
    ts.all (fun t => P.readableRec t && Nat.blt t P.types.size) = true → DataW.TrodAll enc P w 0 (fun _ => true) true ts vs ds ps → (∀ p ∈ ps, sp p.block = true) → (∀ p ∈ ps, p.block < w.heap.size) →
    DataW.TrodAll enc P w' 0 sp true ts vs ds ps
  | [], [], [], ps, _, ht, _, _ => ht
  | t :: ts, v :: vs, d :: ds, ps, ha, ht, hsp, hlt => by
    obtain ⟨p, q, h1, h2, rfl⟩ := ht
    simp only [List.all_cons, Bool.and_eq_true, Nat.blt_eq] at ha
    refine ⟨p, q, WideElems.Trod_stays hl ha.1.1 ha.1.2 h1 (fun x hx => h.same (hlt x (by simp [hx]))) (fun x hx => hsp x (by simp [hx])), ?_, rfl⟩
    exact trodAll_kept hl h (by simpa only [Bool.and_eq_true, Nat.blt_eq] using ha.2) h2 (fun x hx => hsp x (by simp [hx])) (fun x hx => hlt x (by simp [hx]))
  | [], _ :: _, _, _, _, h, _, _ => by simp [DataW.TrodAll] at h
  | [], [], _ :: _, _, _, h, _, _ => by simp [DataW.TrodAll] at h
  | _ :: _, [], _, _, _, h, _, _ => by simp [DataW.TrodAll] at h
  | _ :: _, _ :: _, [], _, _, h, _, _ => by simp [DataW.TrodAll] at h

/-- What a law promises of its end. -/
theorem law_post {f : Func} {s : ChangeSpec} {W W' : World} {args : Array Value} {ds gs : List (DataW H)} {before : List MemPlace} (hl : laidOutB P = true) (hv : s.vars = []) {tb : TypeId} (htb : P.underlying tb = some .bool) (hr : f.resultTypes = #[tb])
    (hp : f.params.toList.all (fun t => P.readableRec t && Nat.blt t P.types.size) = true) (hfn : s.fn H ds = { results := [.lit (.bool true)], args := ds }) (hW : DataW.Whole enc P f.params.toList s.vars false W args.toList ds gs before) (hk : Kept W W') :
    s.post enc P f false true false false W args (.bool true) W' := by
  have hW' := hW
  obtain ⟨p, q, hA, hV, hb, hz, hn⟩ := hW
  rw [hv] at hV
  have hg : gs = [] ∧ q = [] := by cases gs <;> simp_all [DataW.TrodVars]
  obtain ⟨rfl, rfl⟩ := hg
  rw [List.append_nil] at hb
  subst hb
  have hlt := hW'.lt
  refine ⟨ds, [], before, [], before, [], hW', ?_, ?_, ?_, hk.keptBut _, fun h => by cases h⟩
  · rw [List.append_nil, hfn, hr]
    refine ⟨[], [], ⟨1, ?_⟩, rfl, rfl⟩
    simp [DataW.trod, Value.cells, htb]
  · rw [List.append_nil, hfn]
    exact trodAll_kept hl hk hp hA (fun x hx => by simpa using hlt x hx) hlt
  · rw [List.append_nil, hfn, hv]
    rfl

theorem laid_at {w : World} : ∀ {l : List (String × DataW Unit)} {ps : List MemPlace}, DataW.LaidVars P w l ps → ∀ n d, (n, d) ∈ l →
    ∃ g t cs fuel p, P.globalNamed n = some g ∧ (P.globals[g]?).map (·.type) = some t ∧ w.var? P n = some cs ∧ DataW.trod (fun _ => ()) P w 0 (fun _ => true) false fuel t cs.toList = some (d, p) ∧ ∀ x ∈ MemPlace.row ⟨g, 0, none⟩ cs.size, x ∈ ps
  | [], _, _, n, d, h => by cases h
  | (m, e) :: r, ps, h, n, d, hm => by
    obtain ⟨g, t, cs, fuel, p, q, h1, h2, h3, h4, h5, rfl⟩ := h
    rcases List.mem_cons.1 hm with e | hm
    · cases e; exact ⟨g, t, cs, fuel, p, h1, h2, h3, h4, fun x hx => by simp [hx]⟩
    · obtain ⟨g', t', cs', fuel', p', a1, a2, a3, a4, a5⟩ := laid_at h5 n d hm
      exact ⟨g', t', cs', fuel', p', a1, a2, a3, a4, fun x hx => by simp [a5 x hx]⟩

/-- A variable's cells are known. -/
def GOne (sg : Nat → Nat → Option Value) (g : Nat) (l : List PV) : Prop :=
  ∃ vs : Nat → Value, (∀ i (h : i < l.length), l[i].one = true) ∧ (∀ i, i < l.length → sg g i = some (vs i)) ∧ (∀ i (h : i < l.length), CRel sg l[i] (vs i))

theorem gone_of {w : World} {name : String} {gid : Nat} {cs : Array Value} {l : List PV} (hn : P.globalNamed name = some gid) (hv : w.var? P name = some cs) (h : CellsRel (sgOf w) l cs.toList) : GOne (sgOf w) gid l := by
  refine ⟨fun i => cs.getD i Go.undef, fun i hi => ?_, fun i hi => ?_, fun i hi => ?_⟩
  all_goals have hl : i < cs.size := by have := h.1; simp at this; omega
  · exact (h.2 i l[i] cs[i] (by simp [hi]) (by simp [hl])).2
  · show w.cell? _ = _
    rw [World.var?_cell hn hv i]
    simp [Array.getD_eq_getD_getElem?, hl]
  · have := (h.2 i l[i] cs[i] (by simp [hi]) (by simp [hl])).1
    simpa [Array.getD_eq_getD_getElem?, hl] using this

theorem gone_row {w : World} {name : String} {gid t : Nat} {d : DataW Unit} {laid : List (String × DataW Unit)} (hg : ∀ t, g t = true → rowOk P g t = true) (hn : P.globalNamed name = some gid) (ht : (P.globals[gid]?).map (·.type) = some t) (hgt : g t = true)
    (hm : (name, d) ∈ laid) (h : laidMet P laid w) : GOne (sgOf w) gid (pvD d) := by
  obtain ⟨ps, hl, _⟩ := h
  obtain ⟨g', t', cs, fuel, p, h1, h2, h3, h4, _⟩ := laid_at hl _ _ hm
  obtain rfl := Option.some.inj (hn.symm.trans h1)
  obtain rfl := Option.some.inj (ht.symm.trans h2)
  exact gone_of hn h3 (trod_got hg fuel t cs.toList d p hgt h4).2.2.1

theorem gone_iface {w : World} {name ty : String} {gid t T te : Nat} {is : Array (String × TypeId)} {d : DataW Unit} {laid : List (String × DataW Unit)} (hg : ∀ t, g t = true → rowOk P g t = true) (hn : P.globalNamed name = some gid) (ht : (P.globals[gid]?).map (·.type) = some t)
    (hu : P.underlying t = some (.interface is)) (hT : ∀ u, P.typeName? 3 u = some ty → u = T) (hp : P.underlying T = some (.pointer te)) (hte : g te = true) (h0 : Nat.blt 0 (P.cellsOf te) = true) (hm : (name, .iface ty (.ptr d)) ∈ laid) (h : laidMet P laid w) :
    GOne (sgOf w) gid [.iface T (.imm 0 (pvD d))] := by
  obtain ⟨ps, hl, _, hok⟩ := h
  obtain ⟨g', t', cs, fuel, p, h1, h2, h3, h4, hin⟩ := laid_at hl _ _ hm
  obtain rfl := Option.some.inj (hn.symm.trans h1)
  obtain rfl := Option.some.inj (ht.symm.trans h2)
  refine gone_of hn h3 ?_
  cases fuel with
  | zero => simp [DataW.trod] at h4
  | succ fuel =>
    unfold DataW.trod at h4
    rw [hu] at h4
    have hcs : ∀ x, cs.toList = [x] → w.cell? ⟨gid, 0, none⟩ = some x ∧ MemPlace.cell gid 0 ∈ ps := by
      intro x hx
      have hsz : cs.size = 1 := by simpa using congrArg List.length hx
      refine ⟨?_, hin _ (by simp [MemPlace.row, hsz])⟩
      rw [World.var?_cell hn h3 0, ← Array.getElem?_toList, hx]; rfl
    generalize cs.toList = l at h4 hcs
    split at h4
    all_goals try (cases ‹some (_ : TypeDesc) = some _›; done)
    · simp at h4
    · rename_i u v _
      obtain ⟨k1, k2⟩ := hcs _ rfl
      have hwide := (hok _ _ k2).2 u v k1
      split at h4
      · rename_i hb; cases hb
      · rename_i nm hnm
        rw [Option.map_eq_some_iff] at h4
        obtain ⟨x, h4, h5⟩ := h4
        simp at h5
        obtain ⟨⟨rfl, h5⟩, _⟩ := h5
        obtain rfl := hT _ hnm
        refine CellsRel.one (.iface _ _ _ ?_) rfl
        have hv1 : v.cells.toList = [v] := by
          unfold Value.okWide Cell.okWide at hwide
          rw [hp] at hwide
          cases v <;> first | rfl | (simp [Cell.ok, hp] at hwide; done)
        rw [hv1] at h4
        cases fuel with
        | zero => simp [DataW.trod] at h4
        | succ fuel =>
          unfold DataW.trod at h4
          rw [hp] at h4
          have he : ∀ (x : DataW Unit × List MemPlace), x.1 = .ptr d → x ≠ (.nil, []) := by rintro x h rfl; cases h
          have pos : 0 < P.cellsOf te := by simpa using h0
          split at h4
          all_goals try (cases ‹some (_ : TypeDesc) = some _›; done)
          · simp at h4; subst h4; cases h5
          · rename_i e' a he' hv'
            cases he'
            rw [Option.map_eq_some_iff] at h4
            obtain ⟨y, h4, h6⟩ := h4
            rw [Option.bind_eq_some_iff] at h4
            obtain ⟨cs', h7, h8⟩ := h4
            have hd : y.1 = d := by
              rw [← h6] at h5
              simpa using h5
            obtain ⟨c1, c2⟩ := cells_row h7
            have c0 := c2 0 (cs'[0]'(by rw [c1]; exact pos)) (by simp [show 0 < cs'.length by rw [c1]; exact pos])
            have hsp : a.spot = none := by
              have := add_spot c0
              simpa [Addr.add] using this
            obtain ⟨b, o, s⟩ := a
            cases hsp
            have hv2 : v = .pointer (some ⟨b, o, none⟩) := by simpa using hv'
            subst hv2
            have got := (trod_got hg fuel te cs' y.1 y.2 hte h8).2.2.1
            rw [hd] at got
            refine .imm 0 _ b o (fun i => cs'.getD i Go.undef) (fun i hi => ?_) (fun i hi => ?_) (fun i hi => ?_)
            all_goals have hl : i < cs'.length := by have := got.1; omega
            · exact (got.2 i _ cs'[i] (List.getElem?_eq_getElem hi) (by simp [hl])).2
            · have := c2 i cs'[i] (by simp [hl])
              rw [Addr.add_lit] at this
              show w.cell? _ = _
              rw [this]; simp [List.getD_eq_getElem?_getD, hl]
            · have := (got.2 i _ cs'[i] (List.getElem?_eq_getElem hi) (by simp [hl])).1
              simpa [List.getD_eq_getElem?_getD, hl] using this
          · cases h4
      · cases h4
    · simp at h4

/-- A law's row: if the machine answers true for every data of the right shape, the program does, and all is as it was. -/
theorem law_contract {f : Nat} {fn : Func} {s : ChangeSpec} {W : World} {args : Array Value} {ds gs : List (DataW H)} {before : List MemPlace} {base : Nat} {tb : TypeId} (hs : CallOK P E (callW E)) (hglob : GRel E (sgOf W))
    (henter : (callFunc f args).run P W = .ok (.enter f args) W) (hg : ∀ t, g t = true → rowOk P g t = true) (hgs : fn.params.toList.all g = true) (hl : laidOutB P = true) (hv : s.vars = []) (htb : P.underlying tb = some .bool)
    (hr : fn.resultTypes = #[tb]) (hp : fn.params.toList.all (fun t => P.readableRec t && Nat.blt t P.types.size) = true) (hfn : ds.length = fn.params.size → s.fn H ds = { results := [.lit (.bool true)], args := ds })
    (hval : ∀ (j : Nat) t v, fn.params[j]? = some t → args[j]? = some v → Value.okWide P W .any base t v) (hW : DataW.Whole enc P fn.params.toList s.vars false W args.toList ds gs before)
    (htrue : ds.length = fn.params.size → (∀ (i : Nat) t d, fn.params.toList[i]? = some t → ds[i]? = some d → Shape P t (pvD d)) → PV.wt.wts (pvL ds) ≤ bulkL ds → ∃ S', callW E f (argsPV P fn.params.toList ds) St.empty = some (.bool true, S')) :
    Calls P f args W fun e W' => ∃ v, e = .returned v ∧ s.post enc P fn false true false false W args v W' := by
  have hW0 := hW
  obtain ⟨p, q, hA, _⟩ := hW
  obtain ⟨r1, r2, r3, r4, r5⟩ := args_rel hg (base := base) hgs hA fun j t v h h' => hval j t v (by simpa using h) (by simpa using h')
  have hlen : ds.length = fn.params.size := by simpa using r3
  obtain ⟨S', ht⟩ := htrue hlen r4 r5
  refine (law_calls hs henter hglob (by simpa using r1) r2 ht).mono ?_
  rintro e W' ⟨rfl, hk⟩
  exact ⟨_, rfl, law_post hl hv htb hr hp (hfn hlen) hW0 hk⟩

end
end Go.Am
