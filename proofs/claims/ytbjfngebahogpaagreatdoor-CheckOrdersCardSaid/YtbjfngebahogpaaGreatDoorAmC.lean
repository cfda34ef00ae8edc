/- From operations to regions that are not drawn. No condition. -/
import Derived.Test.YtbjfngebahogpaaGreatDoorAmB
import Derived.Tactics
import Derived.LoopN
namespace Go.Am

/-- It comes to a value, at once or by a call. -/
def Gets (P : Program) (r : Result Next) (R : Value → World → Prop) : Prop :=
  match r with
  | .ok (.value v) w' => R v w'
  | .ok (.enter f args) w' => Calls P f args w' fun e w'' => ∃ v, e = .returned v ∧ R v w''
  | _ => False

theorem Gets.mono {P : Program} {r : Result Next} {R R' : Value → World → Prop} (h : Gets P r R) (hr : ∀ v w, R v w → R' v w) : Gets P r R' := by
  unfold Gets at *
  split
  · exact hr _ _ h
  · exact h.mono fun e w'' ⟨v, he, hv⟩ => ⟨v, he, hr _ _ hv⟩
  · rename_i h1 h2
    cases r with
    | ok n w =>
      cases n with
      | value v => exact h1 _ _ rfl
      | enter f args => exact h2 _ _ _ rfl
      | _ => exact h
    | halt => exact h

def ARel (C : Conf) (S : St) (ps : List PV) (vs : Array Value) : Prop :=
  ps.length = vs.size ∧ ∀ i (h : i < ps.length) (h' : i < vs.size), VRel C S ps[i] vs[i]

theorem ARel.mono {C C' : Conf} {S S' : St} (x : Ext C S C' S') {ps : List PV} {vs : Array Value} (h : ARel C S ps vs) : ARel C' S' ps vs :=
  ⟨h.1, fun i h1 h2 => (h.2 i h1 h2).mono x⟩

theorem ARel.append {C : Conf} {S : St} {ps qs : List PV} {vs us : Array Value} (h : ARel C S ps vs) (h' : ARel C S qs us) : ARel C S (ps ++ qs) (vs ++ us) := by
  refine ⟨by simp [h.1, h'.1], fun i h1 h2 => ?_⟩
  simp only [List.length_append, Array.size_append] at h1 h2
  rw [List.getElem_append, Array.getElem_append]
  by_cases hi : i < ps.length
  · have : i < vs.size := by rw [← h.1]; exact hi
    simp only [hi, this, dite_true]
    exact h.2 i hi this
  · have : ¬ i < vs.size := by rw [← h.1]; exact hi
    simp only [hi, this, dite_false]
    have e : i - ps.length = i - vs.size := by rw [h.1]
    have := h'.2 (i - vs.size) (by have := h.1; omega) (by omega)
    simpa only [e] using this

theorem ARel.map {C : Conf} {S : St} {ev : Operand → Option PV} {ρ : Operand → Value} (hev : ∀ x p, ev x = some p → VRel C S p (ρ x)) {l : Array Operand} {ps : List PV} (h : evArgs ev l.toList = some ps) :
    ARel C S ps (l.map ρ) := by
  obtain ⟨a1, a2⟩ := evArgs_rel hev h
  refine ⟨by simpa using a1, fun i h1 h2 => ?_⟩
  have := a2 i h1 (by simpa using h2)
  rw [List.getElem_map] at this
  rw [Array.getElem_map]
  exact this

theorem func_inv' {C : Conf} {S : St} {f : Nat} {a b : List PV} {x : Value} (h : VRel C S (.func f a b) x) : ∃ as bs, x = .func (.func f) as bs ∧ ARel C S a as ∧ ARel C S b bs := by
  cases h with
  | clean _ _ h =>
    cases h with
    | func _ _ _ as bs va vb hla hlb hva hvb hca hcb =>
      refine ⟨as, bs, rfl, ⟨hla.symm, fun i h1 h2 => ?_⟩, ⟨hlb.symm, fun i h1 h2 => ?_⟩⟩
      · have := hva i h1
        rw [Array.getElem?_eq_getElem h2] at this
        rw [Option.some.inj this]
        exact .clean _ _ (hca i h1)
      · have := hvb i h1
        rw [Array.getElem?_eq_getElem h2] at this
        rw [Option.some.inj this]
        exact .clean _ _ (hcb i h1)
  | func _ _ _ as bs va vb hla hlb hva hvb hca hcb =>
    refine ⟨as, bs, rfl, ⟨hla.symm, fun i h1 h2 => ?_⟩, ⟨hlb.symm, fun i h1 h2 => ?_⟩⟩
    · have := hva i h1
      rw [Array.getElem?_eq_getElem h2] at this
      rw [Option.some.inj this]
      exact hca i h1
    · have := hvb i h1
      rw [Array.getElem?_eq_getElem h2] at this
      rw [Option.some.inj this]
      exact hcb i h1

/-- What is told of a call is so. -/
def CallOK (P : Program) (E : Env) (cf : CallF) : Prop :=
  ∀ f args S r S', cf f args S = some (r, S') → ∀ (C : Conf) (w0 : Base) (N : Nat → Prop) (w : World) (vs : Array Value), GRel E C.sg → WRel C S w0 N w → ARel C S args vs →
    Gets P ((callFunc f vs).run P w) fun v w' => ∃ C', Ext C S C' S' ∧ VRel C' S' r v ∧ WRel C' S' w0 N w'

def DRel (C : Conf) (S : St) (D : List (PV × List PV)) (ds : List Deferred) : Prop :=
  D.length = ds.length ∧ ∀ i (h : i < D.length) (h' : i < ds.length), ∃ f first cap bs vs, D[i].1 = .func f first cap ∧ ds[i] = { target := .fn (.func f) bs, args := vs } ∧
    ARel C S (first ++ D[i].2) vs ∧ ARel C S cap bs

theorem DRel.mono {C C' : Conf} {S S' : St} (x : Ext C S C' S') {D : List (PV × List PV)} {ds : List Deferred} (h : DRel C S D ds) : DRel C' S' D ds :=
  ⟨h.1, fun i h1 h2 => let ⟨f, first, cap, bs, vs, e1, e2, e3, e4⟩ := h.2 i h1 h2; ⟨f, first, cap, bs, vs, e1, e2, e3.mono x, e4.mono x⟩⟩

/-- A frame of the machine, and the model's. -/
structure FRel (E : Env) (C : Conf) (w0 : Base) (N : Nat → Prop) (F : Fr) (a : Act) (w : World) : Prop where
  g : GRel E C.sg
  w : WRel C F.S w0 N w
  r : RRel C F.S F.n F.regs a.tmps
  d : DRel C F.S F.defers a.defers

theorem vrel_bool {C : Conf} {S : St} {p : PV} {b : Bool} (h : VRel C S p (.bool b)) : p = .bool b := by
  cases h with
  | clean _ _ h => cases h; rfl

theorem put_tmps (a : Act) (d : Option Nat) (v : Value) : (a.put d v).defers = a.defers := by cases d <;> rfl

theorem put_congr (a : Act) (d : Option Nat) (v : Value) (D : List Deferred) : (({ tmps := a.tmps, defers := D } : Act).put d v).tmps = (a.put d v).tmps := by cases d <;> rfl

section
variable {P : Program} {E : Env} {C : Conf} {w0 : Base} {w : World} {N : Nat → Prop}

theorem FRel.put {F F' : Fr} {a : Act} (h : FRel E C w0 N F a w) {C' : Conf} {S' : St} {w' : World} {p : PV} {v : Value} (x : Ext C F.S C' S') (hv : VRel C' S' p v) (hw : WRel C' S' w0 N w')
    {o : Option Nat} (hp : putF F o p F.defers S' = some F') : FRel E C' w0 N F' (a.put o v) w' ∧ F'.n = F.n ∧ F'.S = S' := by
  unfold putF at hp
  split at hp
  · rename_i r hr
    simp at hp; subst hp
    refine ⟨⟨h.g.mono x.sg, hw, ?_, ?_⟩, rfl, rfl⟩
    · have := (h.r.mono x).put hv hr a.defers
      exact this
    · rw [put_tmps]; exact h.d.mono x
  · cases hp

theorem guard_wanted {F : Fr} {a : Act} (h : FRel E C w0 N F a w) {ops : Array Oper} {o : Oper} : guardOk ops F.regs o = Region.wanted o (yielded ops a.tmps) := by
  unfold guardOk Region.wanted yielded
  cases hg : o.guard with
  | none => rfl
  | some x =>
    obtain ⟨j, want⟩ := x
    simp only
    cases ht : (ops[j]?).bind (·.dst) with
    | none => simp
    | some t =>
      simp only
      have hv := h.r.2 t
      simp only [Array.getD_eq_getD_getElem?] at hv
      cases hb : a.tmps[t]? with
      | none =>
        rw [hb] at hv
        cases hr : getR t F.regs <;> simp [hb, ht]
        rename_i b
        rw [hr] at hv
        have := bool_inv hv
        cases this
      | some u =>
        rw [hb] at hv
        simp only [Option.getD_some] at hv
        cases hr : getR t F.regs with
        | bool b =>
          rw [hr] at hv
          have := bool_inv hv
          subst this
          cases b <;> cases want <;> simp [hb, ht]
        | _ =>
          cases u with
          | bool b => rw [vrel_bool hv] at hr; cases hr
          | _ => simp [hb, ht]

/-- An operation comes to what the machine says. -/
theorem op_gets (hE : EOk P E) {cf : CallF} (hcf : CallOK P E cf) {hp : Bool} {at_ : Option Nat} (hat : ∀ k, at_ = some k → ¬ w0.hl k) {ρ : Operand → Value} {ev : Operand → Option PV} {S : St} (hg : GRel E C.sg) (hw : WRel C S w0 N w)
    (hev : ∀ x p, ev x = some p → VRel C S p (ρ x)) {o : Oper} (hnd : ∀ c, o.op ≠ .defer c) {r : PV} {S' : St} (h : opRun E cf hp at_ ev S o = some (r, S')) :
    (∃ C' w', (execOp ρ o).run P w = .ok .skip w' ∧ Ext C S C' S' ∧ VRel C' S' r Go.undef ∧ WRel C' S' w0 N w') ∨
      Gets P ((execOp ρ o).run P w) fun v w' => ∃ C', Ext C S C' S' ∧ VRel C' S' r v ∧ WRel C' S' w0 N w' := by
  cases hgc : goCall o with
  | false =>
    obtain ⟨C', u, w', h1 | ⟨h1, rfl⟩, h2, h3, h4⟩ := op_ran hE hw hat hev hgc h
    · right; rw [h1]; exact ⟨C', h2, h3, h4⟩
    · exact .inl ⟨C', w', h1, h2, h3, h4⟩
  | true =>
    right
    unfold goCall at hgc
    split at hgc
    · rename_i c hc; exact absurd hc (hnd c)
    · rename_i c hc
      split at hgc
      · rename_i f hf
        unfold opRun at h
        simp only [hc, hf] at h
        split at h
        · rename_i args hargs
          split at h
          · rename_i g first cap hfv
            obtain ⟨as, bs, e, r1, r2⟩ := func_inv' (hev _ _ hfv)
            have := hcf g _ S r S' h C w0 N w _ hg hw ((r1.append (ARel.map hev hargs)).append r2)
            have e2 : (execOp ρ o).run P w = (callFunc g (as ++ c.args.map ρ ++ bs)).run P w := by
              unfold execOp
              simp only [hc, resolve, hf, e, Deferred.ofValue, Sem.run_bind, Sem.run, Result.andThen, invoke, pure_bind]
            rw [e2]; exact this
          · cases h
        · cases h
      · cases hgc
    · cases hgc

theorem oper_ok (hE : EOk P E) {cf : CallF} (hcf : CallOK P E cf) {hp : Bool} {ops : Array Oper} {at_ : Option Nat} (hat : ∀ k, at_ = some k → ¬ w0.hl k) {o : Oper} {F F' : Fr} {a : Act} (h : FRel E C w0 N F a w)
    (hr : operRun E cf hp ops at_ o F = some F') (K : Act → World → Prop) (Q : Exit → Act → World → Prop)
    (hK : ∀ C' a' w', Ext C F.S C' F'.S → FRel E C' w0 N F' a' w' → F'.n = F.n → K a' w') :
    if Region.wanted o (yielded ops a.tmps) then o.wp P a w K Q else K (a.put o.dst Go.undef) w := by
  unfold operRun at hr
  rw [guard_wanted h] at hr
  simp only [cond_eq_ite] at hr
  split
  · rename_i hwd
    rw [if_pos hwd] at hr
    have hev : ∀ x p, evalO E F.regs x = some p → VRel C F.S p (a.eval x) := fun x p hx => evalO_rel h.r h.g hx
    split at hr
    · rename_i c hc
      split at hr
      · rename_i f hf
        split at hr
        · rename_i g fi ca args hfv hargs
          obtain ⟨as, bs, e, r1, r2⟩ := func_inv' (hev _ _ hfv)
          unfold putF at hr
          split at hr
          · rename_i regs hregs
            simp at hr; subst hr
            have e2 : (execOp a.eval o).run P w = .ok (.defer { target := .fn (.func g) bs, args := as ++ c.args.map a.eval }) w := by
              unfold execOp
              simp [hc, resolve, hf, e, Deferred.ofValue]
            unfold Oper.wp
            rw [e2]
            simp only [Oper.upon]
            refine hK C _ w (Ext.refl _ _) ⟨h.g, h.w, ?_, ?_⟩ rfl
            · exact h.r.put (vrel_undef _ _) hregs _
            · rw [put_tmps]
              refine ⟨by simp [h.d.1], fun i h1 h2 => ?_⟩
              cases i with
              | zero => exact ⟨g, fi, ca, bs, _, rfl, rfl, r1.append (ARel.map hev hargs), r2⟩
              | succ i => simpa using h.d.2 i (by simpa using h1) (by simpa using h2)
          · cases hr
        · cases hr
      · cases hr
    · rename_i hnd
      split at hr
      · rename_i v S' hop
        unfold Oper.wp
        rcases op_gets hE hcf hat h.g h.w hev (fun c hc => hnd c hc) hop with ⟨C', w', e, x, hv, hw⟩ | hgets
        · rw [e]
          obtain ⟨f1, f2, f3⟩ := h.put x hv hw hr
          exact hK C' _ w' (f3 ▸ x) f1 f2
        · revert hgets
          generalize (execOp a.eval o).run P w = res
          intro hgets
          unfold Gets at hgets
          split at hgets
          · obtain ⟨C', x, hv, hw⟩ := hgets
            obtain ⟨f1, f2, f3⟩ := h.put x hv hw hr
            exact hK C' _ _ (f3 ▸ x) f1 f2
          · refine hgets.mono fun e w'' he => ?_
            obtain ⟨v', rfl, C', x, hv, hw⟩ := he
            obtain ⟨f1, f2, f3⟩ := h.put x hv hw hr
            exact hK C' _ _ (f3 ▸ x) f1 f2
          · exact hgets.elim
      · cases hr
  · rename_i hwd
    rw [if_neg hwd] at hr
    obtain ⟨f1, f2, f3⟩ := h.put (Ext.refl _ _) (vrel_undef _ _) h.w hr
    exact hK C _ w (f3 ▸ Ext.refl _ _) f1 f2

theorem ops_ok (hE : EOk P E) {cf : CallF} (hcf : CallOK P E cf) {hp : Bool} {ops : Array Oper} {F' : Fr} {Q : Exit → Act → World → Prop} : ∀ (l : List Oper) {C : Conf} {w : World} {F : Fr} {a : Act}, FRel E C w0 N F a w →
    opsRun E cf hp ops l F = some F' → (∀ C' a' w', Ext C F.S C' F'.S → FRel E C' w0 N F' a' w' → F'.n = F.n → Q .normal a' w') → wpList P ops Q l a w
  | [], C, w, F, a, h, hr, hQ => by
    simp [opsRun] at hr; subst hr
    exact hQ C a w (Ext.refl _ _) h rfl
  | o :: l, C, w, F, a, h, hr, hQ => by
    unfold opsRun at hr
    split at hr
    · rename_i F1 h1
      refine wpList_step fun K hK => ?_
      refine oper_ok hE hcf (fun k hk => by cases hk) h h1 K Q fun C1 a1 w1 x1 f1 n1 => hK _ _ ?_
      exact ops_ok hE hcf l f1 hr fun C2 a2 w2 x2 f2 n2 => hQ C2 a2 w2 (x1.trans x2) f2 (n2.trans n1)
    · cases hr

end
end Go.Am

/- Codes. No condition. -/
namespace Go.Am

def exOf : Ex → Exit
  | .normal => .normal
  | .ret => .ret
  | .exit id => .exit id

/-- What is told of codes is so. -/
structure CodeOK (P : Program) (E : Env) (n : Nat) (step : Code → Fr → Option (Ex × Fr)) : Prop where
  code : ∀ c F e F', saneCode c = true → step c F = some (e, F') → ∀ (C : Conf) (w0 : Base) (N : Nat → Prop) (w : World) (a : Act) (Q : Exit → Act → World → Prop), FRel E C w0 N F a w →
    (∀ C' a' w', Ext C F.S C' F'.S → FRel E C' w0 N F' a' w' → F'.n = F.n → Q (exOf e) a' w') → c.wp P Q a w
  loop : ∀ c F e F', saneCode c = true → step (.loop c) F = some (e, F') → ∀ (C : Conf) (w0 : Base) (N : Nat → Prop) (w : World) (a : Act) (Q : Exit → Act → World → Prop), FRel E C w0 N F a w →
    (∀ C' a' w', Ext C F.S C' F'.S → FRel E C' w0 N F' a' w' → F'.n = F.n → Q (exOf e) a' w') → Code.rounds P c Q n a w

def DrawOK (P : Program) (E : Env) (cf : CallF) (hp : Bool) : Prop :=
  ∀ ops F F' id, saneOps ops (fun j => (Region.before ops).getD j 0) 0 ops.toList = true → regionRun E cf hp ops true F = some F' → ∀ (C : Conf) (w0 : Base) (N : Nat → Prop) (w : World) (a : Act) (Q : Exit → Act → World → Prop),
    FRel E C w0 N F a w → (∀ C' a' w', Ext C F.S C' F'.S → FRel E C' w0 N F' a' w' → F'.n = F.n → Q .normal a' w') → (Code.region id ops true).wp P Q a w

section
variable {P : Program} {E : Env}

theorem loop_ok (hE : EOk P E) {cf : CallF} {hp : Bool} {n : Nat} {self : Code → Fr → Option (Ex × Fr)} (hs : CodeOK P E n self) {x : Code} {F F' : Fr} {e : Ex} (hsane : saneCode x = true)
    (h : execStep E cf hp self (.loop x) F = some (e, F')) {C : Conf} {w0 : Base} {N : Nat → Prop} {w : World} {a : Act} {Q : Exit → Act → World → Prop} (hF : FRel E C w0 N F a w)
    (hQ : ∀ C' a' w', Ext C F.S C' F'.S → FRel E C' w0 N F' a' w' → F'.n = F.n → Q (exOf e) a' w') : Code.rounds P x Q (n + 1) a w := by
  simp only [execStep] at h
  cases hx : self x F with
  | none => rw [hx] at h; cases h
  | some r =>
    obtain ⟨e1, F1⟩ := r
    rw [hx] at h
    rw [rounds_succ]
    refine hs.code x F e1 F1 hsane hx C w0 N w a _ hF fun C1 a1 w1 x1 f1 n1 => ?_
    cases e1 with
    | normal => exact hs.loop x F1 e F' hsane h C1 w0 N w1 a1 Q f1 fun C2 a2 w2 x2 f2 n2 => hQ C2 a2 w2 (x1.trans x2) f2 (n2.trans n1)
    | ret => simp at h; obtain ⟨rfl, rfl⟩ := h; exact hQ C1 a1 w1 x1 f1 n1
    | exit id => simp at h; obtain ⟨rfl, rfl⟩ := h; exact hQ C1 a1 w1 x1 f1 n1

theorem execStep_ok (hE : EOk P E) {cf : CallF} (hcf : CallOK P E cf) {hp : Bool} (hd : DrawOK P E cf hp) {n : Nat} {self : Code → Fr → Option (Ex × Fr)} (hs : CodeOK P E n self) : CodeOK P E (n + 1) (execStep E cf hp self) := by
  refine ⟨?_, fun c F e F' hsane h C w0 N w a Q hF hQ => loop_ok hE hs hsane h hF hQ⟩
  intro c F e F' hsane h C w0 N w a Q hF hQ
  have h' := h
  unfold execStep at h
  split at h
  · simp at h; obtain ⟨rfl, rfl⟩ := h
    exact wp_skip (hQ C a w (Ext.refl _ _) hF rfl)
  · simp at h; obtain ⟨rfl, rfl⟩ := h
    exact wp_label (hQ C a w (Ext.refl _ _) hF rfl)
  · rename_i id ops draw
    split at h
    · rename_i F1 hr
      simp at h; obtain ⟨rfl, rfl⟩ := h
      cases draw with
      | true => exact hd ops F F1 id (by simpa [saneCode] using hsane) hr C w0 N w a Q hF hQ
      | false => exact wp_region_list (ops_ok hE hcf _ hF (by simpa [regionRun] using hr) hQ)
    · cases h
  · rename_i x y
    simp only [saneCode, Bool.and_eq_true] at hsane
    cases hx : self x F with
    | none => rw [hx] at h; cases h
    | some r =>
      obtain ⟨e1, F1⟩ := r
      rw [hx] at h
      refine wp_seq (hs.code x F e1 F1 hsane.1 hx C w0 N w a _ hF fun C1 a1 w1 x1 f1 n1 => ?_)
      cases e1 with
      | normal => exact hs.code y F1 e F' hsane.2 h C1 w0 N w1 a1 Q f1 fun C2 a2 w2 x2 f2 n2 => hQ C2 a2 w2 (x1.trans x2) f2 (n2.trans n1)
      | ret => simp at h; obtain ⟨rfl, rfl⟩ := h; exact hQ C1 a1 w1 x1 f1 n1
      | exit id => simp at h; obtain ⟨rfl, rfl⟩ := h; exact hQ C1 a1 w1 x1 f1 n1
  · rename_i x y z
    simp only [saneCode, Bool.and_eq_true] at hsane
    split at h
    · rename_i t ht
      have := bool_inv (evalO_rel hF.r hF.g ht)
      refine wp_cond this ?_
      cases t with
      | true => exact hs.code y F e F' hsane.1 h C w0 N w a Q hF hQ
      | false => exact hs.code z F e F' hsane.2 h C w0 N w a Q hF hQ
    · cases h
  · rename_i id x
    simp only [saneCode] at hsane
    cases hx : self x F with
    | none => rw [hx] at h; cases h
    | some r =>
      obtain ⟨e1, F1⟩ := r
      rw [hx] at h
      refine wp_block (hs.code x F e1 F1 hsane hx C w0 N w a _ hF fun C1 a1 w1 x1 f1 n1 => ?_)
      cases e1 with
      | normal => simp at h; obtain ⟨rfl, rfl⟩ := h; exact hQ C1 a1 w1 x1 f1 n1
      | ret => simp at h; obtain ⟨rfl, rfl⟩ := h; exact hQ C1 a1 w1 x1 f1 n1
      | exit k =>
        simp only [cond_eq_ite, nat_beq] at h
        simp only [exOf, Exit.inBlock]
        split at h
        · rename_i hk
          simp at h; obtain ⟨rfl, rfl⟩ := h
          rw [if_pos hk]; exact hQ C1 a1 w1 x1 f1 n1
        · rename_i hk
          simp at h; obtain ⟨rfl, rfl⟩ := h
          rw [if_neg hk]; exact hQ C1 a1 w1 x1 f1 n1
  · rename_i x
    exact wp_loop_rounds (n + 1) (loop_ok hE hs (by simpa [saneCode] using hsane) h' hF hQ)
  · simp at h; obtain ⟨rfl, rfl⟩ := h
    exact wp_exit (hQ C a w (Ext.refl _ _) hF rfl)
  · simp at h; obtain ⟨rfl, rfl⟩ := h
    exact wp_ret (hQ C a w (Ext.refl _ _) hF rfl)
  · cases h

end
end Go.Am

/- Functions, and what is put off to their ends. No condition. -/
namespace Go.Am

def resSem (tmps : Array Value) : ResultVar → Sem Value
  | .tmp t => pure (tmps.getD t Go.undef)
  | .cell a t => do loadVar t (← asAddr (tmps.getD a Go.undef))

section
variable {P : Program} {E : Env} {C : Conf} {S : St} {w0 : Base} {w : World} {N : Nat → Prop}

theorem resultOf_rel (hE : EOk P E) (hw : WRel C S w0 N w) {n : Nat} {regs : Regs} {tmps : Array Value} (hr : RRel C S n regs tmps) {r : ResultVar} {p : PV} (h : resultOf E regs S r = some p) :
    ∃ v, (resSem tmps r).run P w = .ok v w ∧ VRel C S p v := by
  cases r with
  | tmp t =>
    simp only [resultOf, Option.some.injEq] at h
    subst h
    exact ⟨_, rfl, hr.2 t⟩
  | cell a t =>
    simp only [resultOf] at h
    have hv := hr.2 a
    obtain ⟨u, h1, h2⟩ := load_rel hE hw hv h
    refine ⟨u, ?_, h2⟩
    have : ∃ ad, tmps.getD a Go.undef = .pointer (some ad) := by
      unfold loadRun at h
      split at h
      · cases h
      · split at h
        · rename_i e; rw [e] at hv; exact ptr_inv hv
        · rename_i e; rw [e] at hv; exact imm_inv hv
        · cases h
    obtain ⟨ad, e⟩ := this
    simp only [resSem]
    rw [e] at h1 ⊢
    simpa [Instr.loadAt, asAddr, Instr.sureAddr, Sem.run_bind] using h1

theorem resultList_rel (hE : EOk P E) (hw : WRel C S w0 N w) {n : Nat} {regs : Regs} {tmps : Array Value} (hr : RRel C S n regs tmps) : ∀ (l : List ResultVar) {ps : List PV}, resultList E regs S l = some ps →
    ∃ vs : List Value, (l.mapM (resSem tmps)).run P w = .ok vs w ∧ vs.length = ps.length ∧
      ∀ i (h : i < ps.length) (h' : i < vs.length), VRel C S ps[i] vs[i]
  | [], ps, h => by simp [resultList] at h; subst h; exact ⟨[], by simp, rfl, fun i h => by cases h⟩
  | r :: l, ps, h => by
    unfold resultList at h
    split at h
    · rename_i v vs h1 h2
      simp at h; subst h
      obtain ⟨u, g1, g2⟩ := resultOf_rel hE hw hr h1
      obtain ⟨us, g3, g4, g5⟩ := resultList_rel hE hw hr l h2
      refine ⟨u :: us, by rw [List.mapM_cons]; simp only [Sem.run_bind, g1, g3, Result.andThen_ok]; rfl, by simp [g4], fun i hi hi' => ?_⟩
      cases i with
      | zero => exact g2
      | succ i => simpa using g5 i (by simpa using hi) (by simpa using hi')
    · cases h

theorem results_rel (hE : EOk P E) (hw : WRel C S w0 N w) {n : Nat} {regs : Regs} {tmps : Array Value} (hr : RRel C S n regs tmps) {fn : Func} {p : PV} (h : resultsOf E fn regs S = some p) :
    ∃ v, (results fn tmps).run P w = .ok v w ∧ VRel C S p v := by
  unfold resultsOf at h
  have key : ∀ ps, resultList E regs S fn.results.toList = some ps → ∃ vs : List Value, (results fn tmps).run P w = .ok (if h : vs.toArray.size = 1 then vs.toArray[0] else .tuple vs.toArray) w ∧ vs.length = ps.length ∧
      ∀ i (h : i < ps.length) (h' : i < vs.length), VRel C S ps[i] vs[i] := by
    intro ps hps
    obtain ⟨vs, h1, h2, h3⟩ := resultList_rel hE hw hr _ hps
    refine ⟨vs, ?_, h2, h3⟩
    have e : results fn tmps = (do let vs ← fn.results.mapM (resSem tmps); pure (if h : vs.size = 1 then vs[0] else .tuple vs)) := by
      rfl
    rw [e, Array.mapM_eq_mapM_toList]
    simp only [Sem.run_bind, map_eq_pure_bind, h1, Result.andThen_ok]
    rfl
  split at h
  · rename_i v hl
    simp at h; subst h
    obtain ⟨vs, h1, h2, h3⟩ := key _ hl
    match vs, h2, h3, h1 with
    | [u], _, h3, h1 => exact ⟨u, by simpa using h1, h3 0 (by simp) (by simp)⟩
  · rename_i ps hne hl
    simp at h; subst h
    obtain ⟨vs, h1, h2, h3⟩ := key _ hl
    have hn : ¬ vs.toArray.size = 1 := by
      intro hh
      simp only [List.size_toArray] at hh
      match ps, h2 with
      | [], h2 => rw [hh] at h2; simp at h2
      | [x], _ => exact hne x rfl
      | _ :: _ :: _, h2 => rw [hh] at h2; simp at h2
    rw [dif_neg hn] at h1
    refine ⟨_, h1, .tup ps _ (fun i => vs.getD i Go.undef) (by simpa using h2) (fun i hi => ?_) (fun i hi => ?_)⟩
    · have : i < vs.length := by omega
      simp [List.getD, this]
    · have h' : i < vs.length := by omega
      have := h3 i hi h'
      simpa [List.getD, h'] using this
  · cases h

theorem getR_numb : ∀ (l : List PV) (k t : Nat), k + l.length ≤ 4000 → getR t (numb k l) = if k ≤ t ∧ t < k + l.length then l.getD (t - k) Am.undef else Am.undef
  | [], k, t, _ => by simp [numb, getR, getT]
  | v :: l, k, t, hk => by
    simp only [List.length_cons] at hk
    simp only [numb]
    rw [getR_setR (by omega)]
    by_cases e : t = k
    · subst e; simp
    · rw [if_neg e, getR_numb l (k + 1) t (by omega)]
      by_cases h : k + 1 ≤ t ∧ t < k + 1 + l.length
      · rw [if_pos h, if_pos (by simp only [List.length_cons]; omega)]
        have : t - k = (t - (k + 1)) + 1 := by omega
        rw [this]; simp
      · rw [if_neg h, if_neg (by simp only [List.length_cons]; omega)]

theorem rrel_enter {args : List PV} {vs : Array Value} (h : ARel C S args vs) {n : Nat} (hn : args.length ≤ n ∧ args.length ≤ 4000) : RRel C S n (numb 0 args) (vs ++ Array.replicate (n - vs.size) Go.undef) := by
  refine ⟨by simp [← h.1]; omega, fun t => ?_⟩
  rw [getR_numb _ _ _ (by omega)]
  by_cases ht : t < args.length
  · have hv : t < vs.size := by rw [← h.1]; exact ht
    rw [if_pos (by omega)]
    have := h.2 t ht hv
    simpa [List.getD, ht, Array.getD_eq_getD_getElem?, Array.getElem?_append, hv] using this
  · have hv : ¬ t < vs.size := by rw [← h.1]; exact ht
    rw [if_neg (by omega)]
    have : (vs ++ Array.replicate (n - vs.size) Go.undef).getD t Go.undef = Go.undef := by
      simp only [Array.getD_eq_getD_getElem?, Array.getElem?_append, hv, if_false, Array.getElem?_replicate]
      split <;> rfl
    rw [this]; exact vrel_undef _ _

theorem run_callFunc {f : Nat} {fn : Func} {c : Code} (hf : P.funcs[f]? = some fn) (hn : (fn.name == "runtime.NumGoroutine") = false) (hb : fn.body = some c) (vs : Array Value) (w : World) :
    (callFunc f vs).run P w = .ok (.enter f vs) w := by
  simp only [callFunc, program, Sem.run_bind, Sem.run, Result.andThen_ok, hf, hn, hb]
  rfl

theorem frel_enter (hg : GRel E C.sg) (hw : WRel C S w0 N w) {args : List PV} {vs : Array Value} (h : ARel C S args vs) {n : Nat} (hn : args.length ≤ n ∧ args.length ≤ 4000) :
    FRel E C w0 N ⟨n, numb 0 args, [], S⟩ { tmps := vs ++ Array.replicate (n - vs.size) Go.undef, defers := [] } w :=
  ⟨hg, hw, rrel_enter h hn, rfl, fun i h => by cases h⟩

/-- What is put off is done, and the results are read. -/
theorem leaves_ok (hE : EOk P E) {n : Nat} {code : Bool → Code → Fr → Option (Ex × Fr)} (hc : ∀ hp, CodeOK P E n (code hp)) {fn : Func} {m : Nat} {regs : Regs} {S' : St} {r : PV} (hres : resultsOf E fn regs S' = some r)
    {R : Ending → World → Prop} {tmps : Array Value} : ∀ (D : List (PV × List PV)) {ds : List Deferred} {C : Conf} {S : St} {w : World}, GRel E C.sg → WRel C S w0 N w → RRel C S m regs tmps → DRel C S D ds → runDefers E code D S = some S' →
    (∀ C' v w', Ext C S C' S' → VRel C' S' r v → WRel C' S' w0 N w' → R (.returned v) w') → Leaves P fn tmps R ds .returning w
  | [], ds, C, S, w, hg, hw, hr, hd, h, hR => by
    simp [runDefers] at h; subst h
    have : ds = [] := List.eq_nil_of_length_eq_zero hd.1.symm
    subst this
    obtain ⟨v, h1, h2⟩ := results_rel hE hw hr hres
    exact ⟨v, h1, hR C v w (Ext.refl _ _) h2 hw⟩
  | (fv, args) :: D, ds, C, S, w, hg, hw, hr, hd, h, hR => by
    match ds, hd with
    | [], hd => cases hd.1
    | d :: ds, hd =>
      obtain ⟨f, first, cap, bs, vs, e1, e2, e3, e4⟩ := hd.2 0 (by simp) (by simp)
      simp only [List.getElem_cons_zero] at e1 e2 e3
      subst e1; subst e2
      simp only [runDefers] at h
      split at h
      · rename_i fn1 hf1
        obtain ⟨hf, hname⟩ := hE.fn f fn1 hf1
        split at h
        · rename_i c hbody
          simp only [cond_eq_ite, Bool.and_eq_true, Nat.ble_eq] at h
          split at h
          · rename_i hlen
            have ha := e3.append e4
            have hinv : (invoke (.fn (.func f) bs) vs).run P w = .ok (.enter f (vs ++ bs)) w := by
              simp only [invoke]
              exact run_callFunc hf hname hbody _ w
            refine leaves_cons (by simp) hinv ?_
            cases hx : code (E.heapy f) c ⟨fn1.ntmps, numb 0 (first ++ args ++ cap), [], S⟩ with
            | none => rw [hx] at h; cases h
            | some x =>
              obtain ⟨ex, F⟩ := x
              rw [hx] at h
              have hsane := hE.sane f fn1 c hf1 hbody
              have key : ∀ (hex : ∀ id, ex ≠ .exit id), (match F.defers, resultsOf E fn1 F.regs F.S with | [], some _ => runDefers E code D F.S | _, _ => none) = some S' → CallsD P f (vs ++ bs) .returning w fun
                  | .returned _, u', w' => Leaves P fn tmps R ds (settle u') w'
                  | .panicked chain, u', w' => Leaves P fn tmps R ds (raised u' chain) w'
                  | .outgrown, _, w' => R .outgrown w' := by
                intro hex h
                split at h
                · rename_i p hdef hres1
                  refine CallsD.mono (R := fun e u' w' => u' = .returning ∧ ∃ v, e = .returned v ∧ ∃ C', Ext C S C' F.S ∧ GRel E C'.sg ∧ WRel C' F.S w0 N w') (callsD_of_wp (R := fun e w' => ∃ v, e = .returned v ∧ ∃ C', Ext C S C' F.S ∧ GRel E C'.sg ∧ WRel C' F.S w0 N w') hf hbody ?_) ?_
                  · refine (hc _).code c _ ex F hsane hx C w0 N w _ _ (frel_enter hg hw ha hlen) fun C1 a1 w1 x1 f1 n1 => ?_
                    have hds : a1.defers = [] := by
                      have := f1.d.1
                      rw [hdef] at this
                      exact List.eq_nil_of_length_eq_zero this.symm
                    obtain ⟨v, g1, g2⟩ := results_rel hE f1.w f1.r hres1
                    cases ex with
                    | normal => exact ⟨hds, v, g1, v, rfl, C1, x1, f1.g, f1.w⟩
                    | ret => exact ⟨hds, v, g1, v, rfl, C1, x1, f1.g, f1.w⟩
                    | exit id => exact absurd rfl (hex id)
                  · rintro e u' w' ⟨rfl, v, rfl, C', x, g, W⟩
                    show Leaves P fn tmps R ds .returning w'
                    refine leaves_ok hE hc hres D g W (hr.mono x) ?_ h fun C2 v2 w2 x2 r2 W2 => hR C2 v2 w2 (x.trans x2) r2 W2
                    refine ⟨by simpa using hd.1, fun i h1 h2 => ?_⟩
                    have := hd.2 (i + 1) (by simpa using h1) (by simpa using h2)
                    obtain ⟨f', first', cap', bs', vs', q1, q2, q3, q4⟩ := this
                    exact ⟨f', first', cap', bs', vs', by simpa using q1, by simpa using q2, by simpa using q3.mono x, q4.mono x⟩
                · cases h
              cases ex with
              | normal => exact key (fun id e => by cases e) h
              | ret => exact key (fun id e => by cases e) h
              | exit id => cases h
          · cases h
        · cases h
      · cases h

def PrimOK (P : Program) (E : Env) : Prop := ∀ f p, E.prim f = some p → CallOK P E (fun g args S => if g = f then p args S else none)

theorem enterStep_ok (hE : EOk P E) (hp : PrimOK P E) {n : Nat} {code : Bool → Code → Fr → Option (Ex × Fr)} (hc : ∀ hp, CodeOK P E n (code hp)) : CallOK P E (enterStep E code) := by
  intro f args S r S' h C w0 N w vs hg hw ha
  unfold enterStep at h
  split at h
  · rename_i p hpr
    exact hp f p hpr f args S r S' (by simpa using h) C w0 N w vs hg hw ha
  · split at h
    · rename_i fn hf1
      obtain ⟨hf, hname⟩ := hE.fn f fn hf1
      split at h
      · rename_i c hbody
        simp only [cond_eq_ite, Bool.and_eq_true, Nat.ble_eq] at h
        split at h
        · rename_i hlen
          rw [run_callFunc hf hname hbody]
          show Calls P f vs w _
          refine calls_of_wp_defers hf hbody ?_
          cases hx : code (E.heapy f) c ⟨fn.ntmps, numb 0 args, [], S⟩ with
          | none => rw [hx] at h; cases h
          | some x =>
            obtain ⟨ex, F⟩ := x
            rw [hx] at h
            have hsane := hE.sane f fn c hf1 hbody
            refine (hc _).code c _ ex F hsane hx C w0 N w _ _ (frel_enter hg hw ha hlen) fun C1 a1 w1 x1 f1 n1 => ?_
            have key : (match runDefers E code F.defers F.S with | some S => (match resultsOf E fn F.regs S with | some v => some (v, S) | none => none) | none => none) = some (r, S') →
                Leaves P fn a1.tmps (fun e w'' => ∃ v, e = .returned v ∧ ∃ C', Ext C S C' S' ∧ VRel C' S' r v ∧ WRel C' S' w0 N w'') a1.defers .returning w1 := by
              intro h
              split at h
              · rename_i S2 hS2
                split at h
                · rename_i v hv
                  simp at h; obtain ⟨rfl, rfl⟩ := h
                  exact leaves_ok hE hc hv _ f1.g f1.w f1.r f1.d hS2 fun C2 u w2 x2 r2 W2 => ⟨u, rfl, C2, x1.trans x2, r2, W2⟩
                · cases h
              · cases h
            cases ex with
            | normal => exact key h
            | ret => exact key h
            | exit id => cases h
        · cases h
      · cases h
    · cases h

end
end Go.Am

/- Calls: what is handed over, and what comes back. No condition. -/
namespace Go.Am

/-- Blocks that are one's own. -/
def Tracked (C : Conf) (S : St) (b : Nat) : Prop :=
  (∃ i x, S.bx[i]? = some x ∧ x.own = true ∧ C.be i = b) ∨ (∃ g x o n c, S.fr[g]? = some (some x) ∧ C.ep g = .slice (some ⟨b, o, none⟩) n c)

def baseOf (w : World) (sg : Nat → Nat → Option Value) (hl : Nat → Prop) : Base := { toWorld := w, sg0 := sg, hl := hl }

section
variable {P : Program} {E : Env} {C : Conf} {S : St} {w0 : Base} {w : World} {N : Nat → Prop}

theorem WRel.tracked (h : WRel C S w0 N w) {b : Nat} (hb : Tracked C S b) : (N b ∨ w0.heap.size ≤ b) ∧ b < w.heap.size := by
  rcases hb with ⟨i, x, h1, h2, rfl⟩ | ⟨g, x, o, n, c, h1, h2⟩
  · exact ⟨h.ownN i x h1 h2, h.own_lt h1 h2⟩
  · refine ⟨h.idN g x b o n c h1 h2, ?_⟩
    obtain ⟨len, e⟩ := x
    obtain ⟨b', n', cap, sz, cur, g1, g2, _⟩ := h.ids g len e h1
    rw [g1] at h2; cases h2
    exact heap_lt g2

/-- A box that is not there is no box of a lineage or of another one. -/
theorem WRel.rebase (h : WRel C S w0 N w) {hl : Nat → Prop} (hhl : ∀ i, hl i → S.bx[i]? = some .hole) : WRel C S (baseOf w C.sg hl) (Tracked C S) w where
  sg := h.sg
  cells := h.cells
  ro i l hi := by
    obtain ⟨h1, vs, t, fz, h2, h3⟩ := h.ro i l hi
    refine ⟨fun hb => ?_, vs, t, fz, ?_, h3⟩
    · rcases (h.tracked hb).1 with h' | h'
      · exact h1 h'
      · have := heap_lt h2; omega
    · exact (h.keep _ (heap_lt h2) h1).trans h2
  iter := h.iter
  inj := h.inj
  sep := h.sep
  ids := h.ids
  idinj := h.idinj
  size := Nat.le_refl _
  keep _ _ _ := rfl
  ownN i b hi ho := .inl (.inl ⟨i, b, hi, ho, rfl⟩)
  idN g x b o n c h1 h2 := .inl (.inr ⟨g, x, o, n, c, h1, h2⟩)
  known b k v hv := .inl hv
  hole := hhl
  still := ⟨rfl, rfl⟩

theorem maskFrom_get (R : List Nat) : ∀ (l : List Box) (k i : Nat), (maskFrom R k l)[i]? = (l[i]?).map fun b => bif R.any (Nat.beq (k + i)) then b else .hole
  | [], k, i => by simp [maskFrom]
  | b :: l, k, i => by
    cases i with
    | zero => simp [maskFrom]
    | succ i =>
      simp only [maskFrom, List.getElem?_cons_succ]
      rw [maskFrom_get R l (k + 1) i]
      have : k + 1 + i = k + (i + 1) := by omega
      rw [this]

theorem maskFrom_length (R : List Nat) : ∀ (l : List Box) (k : Nat), (maskFrom R k l).length = l.length
  | [], k => rfl
  | b :: l, k => by simp [maskFrom, maskFrom_length R l (k + 1)]

theorem fittedFrom_get (R : List Nat) : ∀ (l : List Box) (k i : Nat), fittedFrom R k l = true → R.any (Nat.beq (k + i)) = true → ∀ c, (l[i]? = some (.ro c) ∨ ∃ t, l[i]? = some (.cells t c)) → c.all (inside R 4) = true
  | [], k, i, _, _, c, h => by simp at h
  | b :: l, k, i, h, hR, c, hb => by
    simp only [fittedFrom, Bool.and_eq_true, Bool.or_eq_true, Bool.not_eq_true'] at h
    cases i with
    | zero =>
      have h1 := h.1.resolve_left (by simp only [Nat.add_zero] at hR; rw [hR]; simp)
      rcases hb with hb | ⟨t, hb⟩ <;> (simp at hb; subst hb; exact h1)
    | succ i =>
      exact fittedFrom_get R l (k + 1) i h.2 (by have : k + 1 + i = k + (i + 1) := by omega
                                                 rw [this]; exact hR) c (by simpa using hb)

/-- The state with what is not handed over put away. -/
def St.mask (S : St) (R : List Nat) : St := ⟨maskFrom R 0 S.bx, S.fr⟩

theorem St.mask_get (S : St) (R : List Nat) (i : Nat) : (S.mask R).bx[i]? = (S.bx[i]?).map fun b => bif R.any (Nat.beq i) then b else .hole := by
  have := maskFrom_get R S.bx 0 i
  simp only [Nat.zero_add] at this
  exact this

theorem St.mask_some {R : List Nat} {i : Nat} {y : Box} (h : (S.mask R).bx[i]? = some y) (hy : y ≠ .hole) : S.bx[i]? = some y ∧ R.any (Nat.beq i) = true := by
  rw [S.mask_get] at h
  cases hb : S.bx[i]? with
  | none => simp [hb] at h
  | some b =>
    rw [hb] at h
    cases hR : R.any (Nat.beq i) <;> rw [hR] at h
    · simp at h; exact absurd h.symm hy
    · simp at h; subst h; exact ⟨rfl, rfl⟩

theorem inside_rel {R : List Nat} {p : PV} {u : Value} (h : VRel C S p u) : ∀ n, inside R n p = true → VRel C (S.mask R) p u := by
  induction h with
  | clean p v h => exact fun n _ => .clean p v h
  | sid g n cells b o cap vs hg hn ho hs hc ht => exact fun _ _ => .sid g n cells b o cap vs hg hn ho hs hc ht
  | ptr i off a b hi hh ha =>
    intro n hn
    cases n with
    | zero => simp [inside] at hn
    | succ n =>
      simp only [inside] at hn
      exact .ptr i off a b (by rw [S.mask_get, hi, hn]; rfl) hh ha
  | ms i off m wd a cap b hi hh hcap ha =>
    intro n hn
    cases n with
    | zero => simp [inside] at hn
    | succ n =>
      simp only [inside] at hn
      exact .ms i off m wd a cap b (by rw [S.mask_get, hi, hn]; rfl) hh hcap ha
  | agg cells cs vs hl ho hv hc ih =>
    intro n hn
    cases n with
    | zero => simp [inside] at hn
    | succ n =>
      simp only [inside, List.all_eq_true] at hn
      exact .agg cells cs vs hl ho hv fun i hi => ih i hi n (hn _ (List.getElem_mem hi))
  | tup cells cs vs hl hv hc ih =>
    intro n hn
    cases n with
    | zero => simp [inside] at hn
    | succ n =>
      simp only [inside, List.all_eq_true] at hn
      exact .tup cells cs vs hl hv fun i hi => ih i hi n (hn _ (List.getElem_mem hi))
  | func f a b as bs va vb hla hlb hva hvb hca hcb iha ihb =>
    intro n hn
    cases n with
    | zero => simp [inside] at hn
    | succ n =>
      simp only [inside, Bool.and_eq_true, List.all_eq_true] at hn
      exact .func f a b as bs va vb hla hlb hva hvb (fun i hi => iha i hi n (hn.1 _ (List.getElem_mem hi))) (fun i hi => ihb i hi n (hn.2 _ (List.getElem_mem hi)))

theorem WRel.mask (h : WRel C S w0 N w) {R : List Nat} (hf : fittedFrom R 0 S.bx = true) : WRel C (S.mask R) w0 N w := by
  have rd : ∀ {f : Nat → Option Value} {l : List PV}, l.all (inside R 4) = true → Reads C S f l → Reads C (S.mask R) f l := fun ha h k hk =>
    let ⟨v, h1, h2, h3⟩ := h k hk; ⟨v, h1, inside_rel h2 4 (List.all_eq_true.1 ha _ (List.getElem_mem hk)), h3⟩
  have own : ∀ {i : Nat} {b : Box}, (S.mask R).bx[i]? = some b → b.own = true → S.bx[i]? = some b := fun hi ho => (St.mask_some hi (by intro e; subst e; cases ho)).1
  refine ⟨h.sg, fun i t l hi => ?_, fun i l hi => ?_, fun i l pos hi => h.iter i l pos (own hi rfl), fun i j b b' hi hj hb hb' => h.inj i j b b' (own hi hb) (own hj hb') hb hb', fun i b hi hb => h.sep i b (own hi hb) hb,
    fun g len e hg => ?_, h.idinj, h.size, h.keep, fun i b hi hb => h.ownN i b (own hi hb) hb, h.idN, h.known, fun i hi => ?_, h.still⟩
  · obtain ⟨h1, h2⟩ := St.mask_some hi (by simp)
    obtain ⟨vs, g1, g2, g3, g4⟩ := h.cells i t l h1
    exact ⟨vs, g1, g2, g3, rd (fittedFrom_get R S.bx 0 i hf (by simpa using h2) l (.inr ⟨t, h1⟩)) g4⟩
  · obtain ⟨h1, h2⟩ := St.mask_some hi (by simp)
    obtain ⟨g0, vs, t, fz, g1, g2, g3, g4⟩ := h.ro i l h1
    exact ⟨g0, vs, t, fz, g1, g2, g3, rd (fittedFrom_get R S.bx 0 i hf (by simpa using h2) l (.inl h1)) g4⟩
  · obtain ⟨b, n, cap, sz, cur, g1, g2, g3, g4, g5, g6, g7, g8⟩ := h.ids g len e hg
    exact ⟨b, n, cap, sz, cur, g1, g2, g3, g4, g5, g6, g7, fun i x hi hx => g8 i x (own hi hx) hx⟩
  · rw [S.mask_get, h.hole i hi]
    cases R.any (Nat.beq i) <;> rfl

theorem mask_hole (b : Box) : b.mask.isHole = b.isHole := by cases b <;> rfl
theorem mask_live (b : Box) : b.mask.live = b.live := by cases b <;> rfl
theorem mask_own (b : Box) : b.mask.own = false := by cases b <;> rfl

/-- Something is learnt of blocks that nobody tracks. -/
theorem WRel.learn (h : WRel C S w0 N w) {sg : Nat → Nat → Option Value} (hle : SgLe C.sg sg) (hc : ∀ b k v, sg b k = some v → w.cell? ⟨b, k, none⟩ = some v)
    (hn : ∀ b k v, sg b k = some v → C.sg b k = some v ∨ (¬ Tracked C S b ∧ (N b ∨ w0.heap.size ≤ b))) : Ext C S { C with sg := sg } S ∧ WRel { C with sg := sg } S w0 N w := by
  have x : Ext C S { C with sg := sg } S :=
    ⟨hle, fun i b hb hh => ⟨b, hb, hh, fun hl => ⟨hl, rfl, rfl⟩⟩, fun g hg => ⟨hg, fun len e he => ⟨len, he, Nat.le_refl _, fun _ => rfl⟩⟩, Nat.le_refl _, fun _ h => h, fun _ _ h => h⟩
  refine ⟨x, hc, ?_, ?_, h.iter, h.inj, ?_, ?_, h.idinj, h.size, h.keep, h.ownN, h.idN, ?_, h.hole, h.still⟩
  · intro i t l hi
    obtain ⟨vs, g1, g2, g3, g4⟩ := h.cells i t l hi
    exact ⟨vs, g1, g2, g3, g4.mono x⟩
  · intro i l hi
    obtain ⟨g1, vs, t, fz, g2, g3, g4, g5⟩ := h.ro i l hi
    exact ⟨g1, vs, t, fz, g2, g3, g4, g5.mono x⟩
  · intro i b hi hb k
    cases hk : sg (C.be i) k with
    | none => exact hk
    | some v =>
      rcases hn _ _ _ hk with h' | h'
      · rw [h.sep i b hi hb k] at h'; cases h'
      · exact absurd (.inl ⟨i, b, hi, hb, rfl⟩) h'.1
  · intro g len e hg
    obtain ⟨b, n, cap, sz, cur, g1, g2, g3, g4, g5, g6, g7, g8⟩ := h.ids g len e hg
    refine ⟨b, n, cap, sz, cur, g1, g2, g3, g4, g5, g6, fun k hk => ?_, g8⟩
    cases hk' : sg b k with
    | none => exact hk'
    | some v =>
      rcases hn _ _ _ hk' with h' | h'
      · rw [g7 k hk] at h'; cases h'
      · exact absurd (.inr ⟨g, _, _, _, _, hg, g1⟩) h'.1
  · intro b k v hv
    rcases hn b k v hv with h' | h'
    · exact h.known b k v h'
    · exact .inr h'.2

open Classical in
/-- What is known when the boxes from B on are fixed. -/
noncomputable def fixed (C : Conf) (S : St) (w : World) (B : Nat) : Nat → Nat → Option Value := fun b k =>
  if ∃ i t l, B ≤ i ∧ S.bx[i]? = some (.cells t l) ∧ C.be i = b ∧ k < l.length then w.cell? ⟨b, k, none⟩ else C.sg b k

theorem fixed_le (h : WRel C S w0 N w) (B : Nat) : SgLe C.sg (fixed C S w B) := by
  intro b k v hv
  unfold fixed
  split
  · exact h.sg b k v hv
  · exact hv

theorem fixed_cell (h : WRel C S w0 N w) (B : Nat) : ∀ b k v, fixed C S w B b k = some v → w.cell? ⟨b, k, none⟩ = some v := by
  intro b k v hv
  unfold fixed at hv
  split at hv
  · exact hv
  · exact h.sg b k v hv

theorem fixed_new (h : WRel C S w0 N w) (B : Nat) : ∀ b k v, fixed C S w B b k = some v → C.sg b k = some v ∨ ∃ i t l, B ≤ i ∧ S.bx[i]? = some (.cells t l) ∧ C.be i = b := by
  intro b k v hv
  unfold fixed at hv
  split at hv
  · rename_i hh
    obtain ⟨i, t, l, h1, h2, h3, _⟩ := hh
    exact .inr ⟨i, t, l, h1, h2, h3⟩
  · exact .inl hv

theorem fixed_bx (h : WRel C S w0 N w) {B : Nat} {bx : List Box} (hbx : ∀ i t l, B ≤ i → bx[i]? = some (.cells t l) → S.bx[i]? = some (.cells t l)) :
    ∀ i t l, B ≤ i → bx[i]? = some (.cells t l) → S.bx[i]? = some (.cells t l) ∧ ∀ k (h : k < l.length), ∃ v, fixed C S w B (C.be i) k = some v ∧ VRel C S l[k] v ∧ l[k].one = true := by
  intro i t l hB hi
  have hS := hbx i t l hB hi
  refine ⟨hS, fun k hk => ?_⟩
  obtain ⟨vs, g1, g2, g3, g4⟩ := h.cells i t l hS
  obtain ⟨v, q1, q2, q3⟩ := g4 k hk
  refine ⟨v, ?_, q2, q3⟩
  unfold fixed
  rw [if_pos ⟨i, t, l, hB, hS, rfl, hk⟩]
  simpa [World.cell?, g1] using q1

/-- A call that was handed nothing of one's own: all that it gives is fixed. -/
theorem frozen (hw : WRel C S w0 N w) {C1 : Conf} {S1 : St} {w1 : World} {hl : Nat → Prop} (x : SgLe C.sg C1.sg) (W1 : WRel C1 S1 (baseOf w C.sg hl) (fun _ => False) w1) {n : Nat} {p q : PV} {u : Value}
    (h : fz 0 S1.bx n p = some q) (hv : VRel C1 S1 p u) : ∃ C', Ext C S C' S ∧ VRel C' S q u ∧ WRel C' S w0 N w1 := by
  have hw' : WRel C S w0 N w1 := hw.same W1.size (fun b hb => W1.keep b hb (fun h => h)) W1.still
  have hsg : SgLe C.sg (fixed C1 S1 w1 0) := x.trans (fixed_le W1 0)
  obtain ⟨x2, W2⟩ := hw'.learn hsg (fixed_cell W1 0) (fun b k v hb => by
    have hbig : C.sg b k = some v ∨ w.heap.size ≤ b := by
      rcases fixed_new W1 0 b k v hb with h' | ⟨i, t, l, _, h2, rfl⟩
      · rcases W1.known b k v h' with h' | h' | h'
        · exact .inl h'
        · exact h'.elim
        · exact .inr h'
      · rcases W1.ownN i _ h2 rfl with h' | h'
        · exact h'.elim
        · exact .inr h'
    refine hbig.imp id fun hb => ⟨fun ht => ?_, .inr (Nat.le_trans hw.size hb)⟩
    have := (hw.tracked ht).2
    omega)
  exact ⟨_, x2, .clean _ _ (fz_rel (fixed_le W1 0) (fixed_bx W1 (fun i t l _ h => h)) n h hv), W2⟩

theorem isolated (hw : WRel C S w0 N w) : WRel C St.empty (baseOf w C.sg (fun _ => False)) (fun _ => False) w where
  sg := hw.sg
  cells i t l h := by simp [St.empty] at h
  ro i l h := by simp [St.empty] at h
  iter i l p h := by simp [St.empty] at h
  inj i j b b' h := by simp [St.empty] at h
  sep i b h := by simp [St.empty] at h
  ids g l e h := by simp [St.empty] at h
  idinj g g' x x' b b' o o' n n' c c' h := by simp [St.empty] at h
  size := Nat.le_refl _
  keep _ _ _ := rfl
  ownN i b h := by simp [St.empty] at h
  idN g x b o n c h := by simp [St.empty] at h
  known b k v h := .inl h
  hole i h := h.elim
  still := ⟨rfl, rfl⟩

end
end Go.Am

/- Calls: lending, merging back, cutting off. No condition. -/
namespace Go.Am

section
variable {P : Program} {E : Env} {C : Conf} {S : St} {w0 : Base} {w : World} {N : Nat → Prop}

theorem lendFrom_get (R : List Nat) : ∀ (l : List Box) (k i : Nat), (lendFrom R k l)[i]? = (l[i]?).map fun b => bif R.any (Nat.beq (k + i)) then b.lent else b.mask
  | [], k, i => by simp [lendFrom]
  | b :: l, k, i => by
    cases i with
    | zero => simp [lendFrom]
    | succ i =>
      simp only [lendFrom, List.getElem?_cons_succ]
      rw [lendFrom_get R l (k + 1) i]
      have : k + 1 + i = k + (i + 1) := by omega
      rw [this]

theorem lendFrom_length (R : List Nat) : ∀ (l : List Box) (k : Nat), (lendFrom R k l).length = l.length
  | [], k => rfl
  | b :: l, k => by simp [lendFrom, lendFrom_length R l (k + 1)]

theorem mergeFrom_length (R : List Nat) : ∀ (l : List Box) (k : Nat) (new : List Box), (mergeFrom R k l new).length = l.length
  | [], k, new => rfl
  | b :: l, k, new => by simp [mergeFrom, mergeFrom_length R l (k + 1)]

theorem mergeFrom_get (R : List Nat) : ∀ (l : List Box) (k : Nat) (new : List Box) (i : Nat), l.length ≤ new.length → i < l.length → (mergeFrom R k l new)[i]? = if R.any (Nat.beq (k + i)) = false then l[i]? else new[i]?
  | [], k, new, i, _, h => by simp at h
  | b :: l, k, new, i, hl, h => by
    match new, hl with
    | x :: new, hl =>
      cases i with
      | zero =>
        simp only [mergeFrom, List.getElem?_cons_zero, Nat.add_zero]
        cases R.any (Nat.beq k) <;> simp
      | succ i =>
        simp only [mergeFrom, List.getElem?_cons_succ, List.tail_cons]
        rw [mergeFrom_get R l (k + 1) new i (by simpa using hl) (by simpa using h)]
        have : k + 1 + i = k + (i + 1) := by omega
        rw [this]

theorem lent_hole (b : Box) : b.lent.isHole = b.isHole := by cases b <;> rfl
theorem lent_own (b : Box) : b.lent.own = false := by cases b <;> rfl
theorem lent_live (b : Box) : b.lent.live = true → b.live = true := by cases b <;> simp [Box.lent, Box.live]

/-- Boxes are lent to be read. -/
theorem lend_rel (hw : WRel C S w0 N w) (R : List Nat) : (∀ p u, VRel C S p u → VRel C ⟨lendFrom R 0 S.bx, S.fr.map fun _ => none⟩ p u) ∧
    WRel C ⟨lendFrom R 0 S.bx, S.fr.map fun _ => none⟩ (baseOf w C.sg (fun _ => False)) (fun _ => False) w := by
  have back : ∀ {i : Nat} {y : Box}, (lendFrom R 0 S.bx)[i]? = some y → ∃ b, S.bx[i]? = some b ∧ (y = b.lent ∨ y = b.mask) := by
    intro i y hy
    rw [lendFrom_get] at hy
    cases hb : S.bx[i]? with
    | none => simp [hb] at hy
    | some b =>
      refine ⟨b, rfl, ?_⟩
      simp only [hb, Option.map_some, Option.some.injEq] at hy
      cases hR : R.any (Nat.beq (0 + i)) <;> rw [hR] at hy
      · exact .inr hy.symm
      · exact .inl hy.symm
  have vr : ∀ p u, VRel C S p u → VRel C ⟨lendFrom R 0 S.bx, S.fr.map fun _ => none⟩ p u := by
    intro p u h
    have there : ∀ {i : Nat} {b : Box}, S.bx[i]? = some b → b.isHole = false → ∃ b', (lendFrom R 0 S.bx)[i]? = some b' ∧ b'.isHole = false ∧ (b'.live = true → b.live = true) := by
      intro i b hb hh
      rw [lendFrom_get, hb]
      simp only [Option.map_some]
      cases R.any (Nat.beq (0 + i))
      · exact ⟨_, rfl, by rw [cond_false, mask_hole]; exact hh, fun hl => by rw [cond_false, mask_live] at hl; exact hl⟩
      · exact ⟨_, rfl, by rw [cond_true, lent_hole]; exact hh, fun hl => lent_live b hl⟩
    induction h with
    | clean p v h => exact .clean p v h
    | sid g n cells b o cap vs hg hn ho hs hc ht =>
      refine .sid g n cells b o cap vs (by simpa using hg) hn ho hs hc (fun len e he => ?_)
      simp at he
    | ptr i off a b hi hh ha =>
      obtain ⟨b', hb', hh', hl⟩ := there hi hh
      exact .ptr i off a b' hb' hh' fun h => ha (hl h)
    | ms i off n wd a cap b hi hh hn ha =>
      obtain ⟨b', hb', hh', hl⟩ := there hi hh
      exact .ms i off n wd a cap b' hb' hh' hn fun h h0 => ha (hl h) h0
    | agg cells cs vs hl ho hv hc ih => exact .agg cells cs vs hl ho hv ih
    | tup cells cs vs hl hv hc ih => exact .tup cells cs vs hl hv ih
    | func f a b as bs va vb hla hlb hva hvb hca hcb iha ihb => exact .func f a b as bs va vb hla hlb hva hvb iha ihb
  have noown : ∀ {i : Nat} {y : Box}, (lendFrom R 0 S.bx)[i]? = some y → y.own = false := by
    intro i y hy
    obtain ⟨b, _, rfl | rfl⟩ := back hy
    · exact lent_own b
    · exact mask_own b
  refine ⟨vr, hw.sg, fun i t l hi => ?_, fun i l hi => ?_, fun i l p hi => ?_, fun i j b b' hi hj hb => ?_, fun i b hi hb => ?_, fun g l e hg => ?_, fun g g' x x' b b' o o' n n' c c' hg => ?_, Nat.le_refl _, fun _ _ _ => rfl,
    fun i b hi hb => ?_, fun g x b o n c hg => ?_, fun b k v hv => .inl hv, fun i h => h.elim, ⟨rfl, rfl⟩⟩
  · have := noown hi; cases this
  · refine ⟨fun h => h, ?_⟩
    have rd : ∀ {f : Nat → Option Value} {l : List PV}, Reads C S f l → Reads C ⟨lendFrom R 0 S.bx, S.fr.map fun _ => none⟩ f l := fun h k hk =>
      let ⟨v, h1, h2, h3⟩ := h k hk; ⟨v, h1, vr _ _ h2, h3⟩
    obtain ⟨b, hb, h' | h'⟩ := back hi
    · cases b <;> simp [Box.lent] at h'
      · subst h'
        obtain ⟨vs, g1, g2, g3, g4⟩ := hw.cells i _ _ hb
        exact ⟨vs, _, _, g1, g2, g3, rd g4⟩
      · subst h'
        obtain ⟨g0, vs, t, fz, g1, g2, g3, g4⟩ := hw.ro i _ hb
        exact ⟨vs, t, fz, (hw.keep _ (heap_lt g1) g0).trans g1, g2, g3, rd g4⟩
    · cases b <;> simp [Box.mask] at h'
  · have := noown hi; cases this
  · rw [noown hi] at hb; cases hb
  · rw [noown hi] at hb; cases hb
  · simp at hg
  · simp at hg
  · rw [noown hi] at hb; cases hb
  · simp at hg

/-- After a masked call: the boxes that were put away come back. -/
theorem merged (hw : WRel C S w0 N w) {inR : Nat → Bool} {Sm : St} (hfr : Sm.fr = S.fr) (hm : ∀ i : Nat, Sm.bx[i]? = (S.bx[i]?).map fun b => bif inR i then b else .hole) (hWm : WRel C Sm w0 N w) {C1 : Conf} {S1 : St} {w1 : World}
    (x : Ext C Sm C1 S1) (W1 : WRel C1 S1 (baseOf w C.sg (fun i => Sm.bx[i]? = some .hole)) (Tracked C Sm) w1) {S2 : St} (hfr2 : S2.fr = S1.fr)
    (h2 : ∀ i : Nat, S2.bx[i]? = if i < S.bx.length ∧ inR i = false then S.bx[i]? else S1.bx[i]?) (hlen : S.bx.length ≤ S2.bx.length) :
    ∃ C2, Ext C S C2 S2 ∧ (∀ p u, VRel C1 S1 p u → VRel C2 S2 p u) ∧ WRel C2 S2 w0 N w1 := by
  let C2 : Conf := ⟨C1.sg, fun i => if i < S.bx.length ∧ inR i = false then C.be i else C1.be i, fun i => if i < S.bx.length ∧ inR i = false then C.sz i else C1.sz i, C1.ep⟩
  have bePos : ∀ {i : Nat}, i < S.bx.length ∧ inR i = false → C2.be i = C.be i ∧ C2.sz i = C.sz i := fun h => ⟨if_pos h, if_pos h⟩
  have beNeg : ∀ {i : Nat}, ¬ (i < S.bx.length ∧ inR i = false) → C2.be i = C1.be i ∧ C2.sz i = C1.sz i := fun h => ⟨if_neg h, if_neg h⟩
  have lt : ∀ {l : List Box} {i : Nat} {b : Box}, l[i]? = some b → i < l.length := fun {l i b} h => by
    rcases Nat.lt_or_ge i l.length with h' | h'
    · exact h'
    · simp [h'] at h
  have vr : ∀ p u, VRel C1 S1 p u → VRel C2 S2 p u := by
    intro p u h
    have there : ∀ {i : Nat} {b : Box}, S1.bx[i]? = some b → b.isHole = false → ∃ b', S2.bx[i]? = some b' ∧ b'.isHole = false ∧ (b'.live = true → b.live = true ∧ C2.be i = C1.be i ∧ C2.sz i = C1.sz i) := by
      intro i b hb hh
      by_cases hc : i < S.bx.length ∧ inR i = false
      · have hS : S.bx[i]? = some S.bx[i] := by simp [hc.1]
        have hSm := hm i
        rw [hS, Option.map_some, hc.2, cond_false] at hSm
        have := W1.hole i hSm
        rw [hb] at this
        cases this
        cases hh
      · exact ⟨b, by rw [h2, if_neg hc]; exact hb, hh, fun hl => ⟨hl, (beNeg hc).1, (beNeg hc).2⟩⟩
    induction h with
    | clean p v h => exact .clean p v h
    | sid g n cells b o cap vs hg hn ho hs hc ht =>
      exact .sid g n cells b o cap vs (by rw [hfr2]; exact hg) hn ho hs hc (fun len e he => ht len e (by rw [hfr2] at he; exact he))
    | ptr i off a b hi hh ha =>
      obtain ⟨b', hb', hh', hl⟩ := there hi hh
      exact .ptr i off a b' hb' hh' fun h => by rw [(hl h).2.1]; exact ha (hl h).1
    | ms i off n wd a cap b hi hh hn ha =>
      obtain ⟨b', hb', hh', hl⟩ := there hi hh
      exact .ms i off n wd a cap b' hb' hh' hn fun h h0 => by rw [(hl h).2.1, (hl h).2.2]; exact ha (hl h).1 h0
    | agg cells cs vs hl ho hv hc ih => exact .agg cells cs vs hl ho hv ih
    | tup cells cs vs hl hv hc ih => exact .tup cells cs vs hl hv ih
    | func f a b as bs va vb hla hlb hva hvb hca hcb iha ihb => exact .func f a b as bs va vb hla hlb hva hvb iha ihb
  have rd1 : ∀ {f : Nat → Option Value} {l : List PV}, Reads C1 S1 f l → Reads C2 S2 f l := fun h k hk => let ⟨v, h1, h2, h3⟩ := h k hk; ⟨v, h1, vr _ _ h2, h3⟩
  have hx : Ext C S C2 S2 := by
    refine ⟨x.sg, fun i b hb hh => ?_, fun g hg => ?_, hlen, fun i hi => ?_, fun i l hi => ?_⟩
    · by_cases hc : i < S.bx.length ∧ inR i = false
      · exact ⟨b, by rw [h2, if_pos hc]; exact hb, hh, fun hl => ⟨hl, (bePos hc).1, (bePos hc).2⟩⟩
      · have hin : inR i = true := by
          cases hq : inR i with
          | true => rfl
          | false => exact absurd ⟨lt hb, hq⟩ hc
        have hSm : Sm.bx[i]? = some b := by rw [hm, hb, hin]; rfl
        obtain ⟨b', q1, q2, q3⟩ := x.bx i b hSm hh
        exact ⟨b', by rw [h2, if_neg hc]; exact q1, q2, fun hl => ⟨(q3 hl).1, by rw [(beNeg hc).1]; exact (q3 hl).2.1, by rw [(beNeg hc).2]; exact (q3 hl).2.2⟩⟩
    · have := x.fr g (by rw [hfr]; exact hg)
      rw [hfr] at this
      rw [hfr2]
      exact this
    · by_cases hc : i < S.bx.length ∧ inR i = false
      · rw [h2, if_pos hc]; exact hi
      · rw [h2, if_neg hc]
        refine x.aw i ?_
        have hin : inR i = true := by
          cases hq : inR i with
          | true => rfl
          | false => exact absurd ⟨lt hi, hq⟩ hc
        rw [hm, hi, hin]; rfl
    · by_cases hc : i < S.bx.length ∧ inR i = false
      · rw [h2, if_pos hc] at hi; exact hi
      · rw [h2, if_neg hc] at hi
        have := x.ro i l hi
        rw [hm] at this
        cases hb : S.bx[i]? with
        | none => simp [hb] at this
        | some b =>
          rw [hb] at this
          cases hq : inR i <;> rw [hq] at this
          · simp at this
          · exact this
  have rd : ∀ {f : Nat → Option Value} {l : List PV}, Reads C S f l → Reads C2 S2 f l := fun h => h.mono hx
  -- blocks of boxes that were put away
  have away : ∀ {i : Nat} {b : Box}, (i < S.bx.length ∧ inR i = false) → S.bx[i]? = some b → b.own = true → ¬ Tracked C Sm (C.be i) ∧ C.be i < w.heap.size := by
    intro i b hc hb ho
    refine ⟨fun ht => ?_, hw.own_lt hb ho⟩
    rcases ht with ⟨j, y, hj, hy, he⟩ | ⟨g, y, o, n, c, hg, he⟩
    · have hj2 := hm j
      rw [hj] at hj2
      cases hSj : S.bx[j]? with
      | none => simp [hSj] at hj2
      | some z =>
        rw [hSj, Option.map_some] at hj2
        cases hq : inR j with
        | false =>
          rw [hq] at hj2
          simp at hj2
          subst hj2
          cases hy
        | true =>
          rw [hq] at hj2
          simp at hj2
          subst hj2
          have hij := hw.inj j i y b hSj hb hy ho he
          subst hij
          rw [hc.2] at hq; cases hq
    · rw [hfr] at hg
      obtain ⟨len, e⟩ := y
      obtain ⟨b', n', cap, sz, cur, g1, _, _, _, _, _, _, g8⟩ := hw.ids g len e hg
      rw [g1] at he; cases he
      exact g8 i b hb ho rfl
  have fresh : ∀ {i : Nat} {b : Box} {c : Nat}, (i < S.bx.length ∧ inR i = false) → S.bx[i]? = some b → b.own = true → (Tracked C Sm c ∨ w.heap.size ≤ c) → C.be i ≠ c := by
    intro i b c hc hb ho h he
    obtain ⟨h1, h2⟩ := away hc hb ho
    subst he
    rcases h with h | h
    · exact h1 h
    · omega
  have kept : ∀ {i : Nat} {b : Box}, (i < S.bx.length ∧ inR i = false) → S.bx[i]? = some b → b.own = true → w1.heap[C.be i]? = w.heap[C.be i]? := fun hc hb ho =>
    W1.keep _ (away hc hb ho).2 (away hc hb ho).1
  have trk : ∀ {c : Nat}, (Tracked C Sm c ∨ w.heap.size ≤ c) → N c ∨ w0.heap.size ≤ c := by
    intro c h
    rcases h with h | h
    · exact (hWm.tracked h).1
    · exact .inr (Nat.le_trans hw.size h)
  refine ⟨C2, hx, vr, W1.sg, fun i t l hi => ?_, fun i l hi => ?_, fun i l pos hi => ?_, fun i j b b' hi hj hb hb' he => ?_, fun i b hi hb k => ?_, fun g len e hg => ?_, fun g g' y y' b b' o o' n n' c c' h1 h3 h4 h5 h6 => ?_,
    Nat.le_trans hw.size W1.size, fun b hb hN => ?_, fun i b hi hb => ?_, fun g y b o n c h1 h3 => ?_, fun b k v hv => ?_, fun i hi => ?_, hw.still.trans W1.still⟩
  · by_cases hc : i < S.bx.length ∧ inR i = false
    · rw [h2, if_pos hc] at hi
      obtain ⟨vs, g1, g2, g3, g4⟩ := hw.cells i t l hi
      exact ⟨vs, by rw [(bePos hc).1, kept hc hi rfl]; exact g1, g2, by rw [(bePos hc).2]; exact g3, rd g4⟩
    · rw [h2, if_neg hc] at hi
      obtain ⟨vs, g1, g2, g3, g4⟩ := W1.cells i t l hi
      exact ⟨vs, by rw [(beNeg hc).1]; exact g1, g2, by rw [(beNeg hc).2]; exact g3, rd1 g4⟩
  · have hS := hx.ro i l hi
    obtain ⟨b', q1, q2, q3⟩ := hx.bx i _ hS rfl
    rw [hi] at q1; cases q1
    obtain ⟨g0, vs, t, fz, g1, g2, g3, g4⟩ := hw.ro i l hS
    rw [(q3 rfl).2.1, (q3 rfl).2.2]
    exact ⟨g0, vs, t, fz, g1, g2, g3, rd g4⟩
  · by_cases hc : i < S.bx.length ∧ inR i = false
    · rw [h2, if_pos hc] at hi
      obtain ⟨s, g1, g2⟩ := hw.iter i l pos hi
      exact ⟨s, by rw [(bePos hc).1, kept hc hi rfl]; exact g1, g2⟩
    · rw [h2, if_neg hc] at hi
      obtain ⟨s, g1, g2⟩ := W1.iter i l pos hi
      exact ⟨s, by rw [(beNeg hc).1]; exact g1, g2⟩
  · by_cases hc : i < S.bx.length ∧ inR i = false <;> by_cases hc' : j < S.bx.length ∧ inR j = false
    · rw [h2, if_pos hc] at hi; rw [h2, if_pos hc'] at hj
      rw [(bePos hc).1, (bePos hc').1] at he
      exact hw.inj i j b b' hi hj hb hb' he
    · rw [h2, if_pos hc] at hi; rw [h2, if_neg hc'] at hj
      rw [(bePos hc).1, (beNeg hc').1] at he
      exact absurd he (fresh hc hi hb (W1.ownN j b' hj hb'))
    · rw [h2, if_neg hc] at hi; rw [h2, if_pos hc'] at hj
      rw [(beNeg hc).1, (bePos hc').1] at he
      exact absurd he.symm (fresh hc' hj hb' (W1.ownN i b hi hb))
    · rw [h2, if_neg hc] at hi; rw [h2, if_neg hc'] at hj
      rw [(beNeg hc).1, (beNeg hc').1] at he
      exact W1.inj i j b b' hi hj hb hb' he
  · by_cases hc : i < S.bx.length ∧ inR i = false
    · rw [h2, if_pos hc] at hi
      rw [(bePos hc).1]
      show C1.sg (C.be i) k = none
      cases hk : C1.sg (C.be i) k with
      | none => rfl
      | some v =>
        rcases W1.known _ _ _ hk with h' | h'
        · have := hw.sep i b hi hb k
          simp only [baseOf] at h'
          rw [this] at h'; cases h'
        · exact absurd rfl (fresh hc hi hb h')
    · rw [h2, if_neg hc] at hi
      rw [(beNeg hc).1]
      exact W1.sep i b hi hb k
  · rw [hfr2] at hg
    obtain ⟨b, n, cap, sz, cur, g1, g2, g3, g4, g5, g6, g7, g8⟩ := W1.ids g len e hg
    refine ⟨b, n, cap, sz, cur, g1, g2, g3, g4, g5, g6, g7, fun i y hi hy => ?_⟩
    by_cases hc : i < S.bx.length ∧ inR i = false
    · rw [h2, if_pos hc] at hi
      rw [(bePos hc).1]
      exact fresh hc hi hy (W1.idN g _ b 0 n cap hg g1)
    · rw [h2, if_neg hc] at hi
      rw [(beNeg hc).1]
      exact g8 i y hi hy
  · rw [hfr2] at h1 h3
    exact W1.idinj g g' y y' b b' o o' n n' c c' h1 h3 h4 h5 h6
  · refine (W1.keep b (Nat.lt_of_lt_of_le hb hw.size) fun ht => ?_).trans (hw.keep b hb hN)
    rcases trk (.inl ht) with h' | h'
    · exact hN h'
    · omega
  · by_cases hc : i < S.bx.length ∧ inR i = false
    · rw [h2, if_pos hc] at hi
      rw [(bePos hc).1]
      exact hw.ownN i b hi hb
    · rw [h2, if_neg hc] at hi
      rw [(beNeg hc).1]
      exact trk (W1.ownN i b hi hb)
  · rw [hfr2] at h1
    exact trk (W1.idN g y b o n c h1 h3)
  · rcases W1.known b k v hv with h' | h'
    · exact hw.known b k v h'
    · exact .inr (trk h')
  · have hS := hw.hole i hi
    by_cases hc : i < S.bx.length ∧ inR i = false
    · rw [h2, if_pos hc]; exact hS
    · rw [h2, if_neg hc]
      refine W1.hole i ?_
      show Sm.bx[i]? = some .hole
      rw [hm, hS]
      cases inR i <;> rfl

end
end Go.Am

/- Calls: put together. No condition. -/
namespace Go.Am

section
variable {P : Program} {E : Env} {C : Conf} {S : St} {w0 : Base} {w : World} {N : Nat → Prop}

noncomputable def Conf.cut (C : Conf) (S : St) (w : World) (B : Nat) : Conf := ⟨fixed C S w B, C.be, C.sz, C.ep⟩

def St.cut (S : St) (B : Nat) : St := ⟨S.bx.take B, S.fr⟩

theorem take_get {l : List Box} {B i : Nat} (h : i < B) : (l.take B)[i]? = l[i]? := by simp [List.getElem?_take, h]

theorem take_some {l : List Box} {B i : Nat} {b : Box} (h : (l.take B)[i]? = some b) : i < B ∧ l[i]? = some b := by
  rw [List.getElem?_take] at h
  split at h
  · exact ⟨by assumption, h⟩
  · cases h

theorem under_rel (W : WRel C S w0 N w) {B : Nat} {p : PV} {u : Value} (h : VRel C S p u) : ∀ n, under B n p = true → VRel (C.cut S w B) (S.cut B) p u := by
  have hle := fixed_le W B
  induction h with
  | clean p v h => exact fun n _ => .clean p v (h.mono hle)
  | sid g n cells b o cap vs hg hn ho hs hc ht =>
    exact fun _ _ => .sid g n cells b o cap vs hg hn ho (fun i hi => hle _ _ _ (hs i hi)) (fun i hi => (hc i hi).mono hle) ht
  | ptr i off a b hi hh ha =>
    intro n hn
    cases n with
    | zero => simp [under] at hn
    | succ n =>
      simp only [under, Nat.blt_eq] at hn
      exact .ptr i off a b ((take_get hn).trans hi) hh ha
  | ms i off m wd a cap b hi hh hcap ha =>
    intro n hn
    cases n with
    | zero => simp [under] at hn
    | succ n =>
      simp only [under, Nat.blt_eq] at hn
      exact .ms i off m wd a cap b ((take_get hn).trans hi) hh hcap ha
  | agg cells cs vs hl ho hv hc ih =>
    intro n hn
    cases n with
    | zero => simp [under] at hn
    | succ n =>
      simp only [under, List.all_eq_true] at hn
      exact .agg cells cs vs hl ho hv fun i hi => ih i hi n (hn _ (List.getElem_mem hi))
  | tup cells cs vs hl hv hc ih =>
    intro n hn
    cases n with
    | zero => simp [under] at hn
    | succ n =>
      simp only [under, List.all_eq_true] at hn
      exact .tup cells cs vs hl hv fun i hi => ih i hi n (hn _ (List.getElem_mem hi))
  | func f a b as bs va vb hla hlb hva hvb hca hcb iha ihb =>
    intro n hn
    cases n with
    | zero => simp [under] at hn
    | succ n =>
      simp only [under, Bool.and_eq_true, List.all_eq_true] at hn
      exact .func f a b as bs va vb hla hlb hva hvb (fun i hi => iha i hi n (hn.1 _ (List.getElem_mem hi))) (fun i hi => ihb i hi n (hn.2 _ (List.getElem_mem hi)))

theorem out_one {B : Nat} {bx : List Box} {n : Nat} {p q : PV} (h : out B bx n p = some q) (hp : p.one = true) : q.one = true := by
  cases n with
  | zero => simp [out] at h
  | succ n =>
    cases p <;> simp only [out] at h
    case agg => simp [PV.one] at hp
    case tup => simp [PV.one] at hp
    case ptr i off =>
      simp only [cond_eq_ite] at h
      split at h
      · simp at h; subst h; rfl
      · exact fz_one h hp
    case ms i off m wd =>
      simp only [cond_eq_ite] at h
      split at h
      · simp at h; subst h; rfl
      · exact fz_one h hp
    case func f a b =>
      split at h
      · simp at h; subst h; rfl
      · cases h
    all_goals exact fz_one h hp

theorem out_rel (W : WRel C S w0 N w) {B : Nat} {bx : List Box} (hbx : ∀ i t l, B ≤ i → bx[i]? = some (.cells t l) → S.bx[i]? = some (.cells t l)) :
    ∀ (n : Nat) {p q : PV} {x : Value}, out B bx n p = some q → VRel C S p x → VRel (C.cut S w B) (S.cut B) q x
  | 0, p, q, x, h, _ => by simp [out] at h
  | n + 1, p, q, x, h, hx => by
    have ih := @out_rel W B bx hbx n
    have fzc : ∀ {p q : PV} {x : Value}, fz B bx (n + 1) p = some q → VRel C S p x → VRel (C.cut S w B) (S.cut B) q x := fun h hx =>
      .clean _ _ (fz_rel (fixed_le W B) (fixed_bx W hbx) (n + 1) h hx)
    have list : ∀ {l l' : List PV} {vs : Nat → Value}, mapO (out B bx n) l = some l' → (∀ i (h : i < l.length), VRel C S l[i] (vs i)) → l'.length = l.length ∧ (∀ i (h : i < l'.length), VRel (C.cut S w B) (S.cut B) l'[i] (vs i)) ∧
        ((∀ i (h : i < l.length), l[i].one = true) → ∀ i (h : i < l'.length), l'[i].one = true) := by
      intro l l' vs hm hv
      obtain ⟨h1, h2⟩ := mapO_spec hm
      refine ⟨h1, fun i hi => ih (h2 i (by omega) hi) (hv i (by omega)), fun ho i hi => out_one (h2 i (by omega) hi) (ho i (by omega))⟩
    cases p <;> simp only [out] at h
    case ptr i off =>
      simp only [cond_eq_ite, Nat.blt_eq] at h
      split at h
      · rename_i hB
        simp at h; subst h
        exact under_rel W hx 1 (by simpa [under] using hB)
      · exact fzc h hx
    case ms i off m wd =>
      simp only [cond_eq_ite, Nat.blt_eq] at h
      split at h
      · rename_i hB
        simp at h; subst h
        exact under_rel W hx 1 (by simpa [under] using hB)
      · exact fzc h hx
    case agg cs =>
      simp only [Option.map_eq_some_iff] at h
      obtain ⟨l', hm, rfl⟩ := h
      obtain ⟨as, rfl, hl, hr⟩ := hx.aggCells
      have hv : ∀ i (h : i < cs.length), VRel C S cs[i] (as.getD i Go.undef) := fun i hi => by
        obtain ⟨u, h1, h2, _⟩ := hr i hi
        simp only at h1
        simpa [Array.getD_eq_getD_getElem?, h1] using h2
      obtain ⟨h1, h2, h3⟩ := list hm hv
      refine .agg l' as _ (by omega) (h3 (fun i hi => (hr i hi).choose_spec.2.2)) (fun i hi => ?_) h2
      have : i < as.size := by omega
      simp [Array.getD_eq_getD_getElem?, this]
    case tup cs =>
      simp only [Option.map_eq_some_iff] at h
      obtain ⟨l', hm, rfl⟩ := h
      obtain ⟨as, rfl, hl, hr⟩ := tup_rel hx
      have hv : ∀ i (h : i < cs.length), VRel C S cs[i] (as.getD i Go.undef) := fun i hi => by
        obtain ⟨u, h1, h2⟩ := hr i hi
        simpa [Array.getD_eq_getD_getElem?, h1] using h2
      obtain ⟨h1, h2, _⟩ := list hm hv
      refine .tup l' as _ (by omega) (fun i hi => ?_) h2
      have : i < as.size := by omega
      simp [Array.getD_eq_getD_getElem?, this]
    case func f a b =>
      split at h
      · rename_i a' b' ha hb
        simp at h; subst h
        cases hx with
        | clean _ _ hx =>
          cases hx with
          | func _ _ _ as bs va vb hla hlb hva hvb hca hcb =>
            obtain ⟨h1, h2, _⟩ := list ha (fun i hi => .clean _ _ (hca i hi))
            obtain ⟨h3, h4, _⟩ := list hb (fun i hi => .clean _ _ (hcb i hi))
            exact .func f a' b' as bs va vb (by omega) (by omega) (fun i hi => hva i (by omega)) (fun i hi => hvb i (by omega)) h2 h4
        | func _ _ _ as bs va vb hla hlb hva hvb hca hcb =>
          obtain ⟨h1, h2, _⟩ := list ha hca
          obtain ⟨h3, h4, _⟩ := list hb hcb
          exact .func f a' b' as bs va vb (by omega) (by omega) (fun i hi => hva i (by omega)) (fun i hi => hvb i (by omega)) h2 h4
      · cases h
    all_goals exact fzc h hx

/-- What lies behind the end is cut off. -/
theorem WRel.cut (W : WRel C S w0 N w) {B : Nat} (hB : below B (S.bx.take B) = true) (hhl : ∀ i, w0.hl i → i < B) : WRel (C.cut S w B) (S.cut B) w0 N w := by
  have rd : ∀ {f : Nat → Option Value} {l : List PV}, l.all (under B 4) = true → Reads C S f l → Reads (C.cut S w B) (S.cut B) f l := fun ha h k hk =>
    let ⟨v, h1, h2, h3⟩ := h k hk; ⟨v, h1, under_rel W h2 4 (List.all_eq_true.1 ha _ (List.getElem_mem hk)), h3⟩
  simp only [below, List.all_eq_true] at hB
  have own : ∀ {i : Nat} {b : Box}, (S.bx.take B)[i]? = some b → b.own = true → ∀ j t l, B ≤ j → S.bx[j]? = some (.cells t l) → C.be j ≠ C.be i := fun hi ho j t l hj hjb he => by
    obtain ⟨h1, h2⟩ := take_some hi
    have := W.inj j _ _ _ hjb h2 rfl ho he
    omega
  refine ⟨fixed_cell W B, fun i t l hi => ?_, fun i l hi => ?_, fun i l pos hi => W.iter i l pos (take_some hi).2, fun i j b b' hi hj => W.inj i j b b' (take_some hi).2 (take_some hj).2, fun i b hi hb k => ?_, fun g len e hg => ?_,
    W.idinj, W.size, W.keep, fun i b hi => W.ownN i b (take_some hi).2, W.idN, fun b k v hv => ?_, fun i hi => (take_get (hhl i hi)).trans (W.hole i hi), W.still⟩
  · obtain ⟨vs, g1, g2, g3, g4⟩ := W.cells i t l (take_some hi).2
    exact ⟨vs, g1, g2, g3, rd (hB _ (List.mem_of_getElem? hi)) g4⟩
  · obtain ⟨g0, vs, t, fz, g1, g2, g3, g4⟩ := W.ro i l (take_some hi).2
    exact ⟨g0, vs, t, fz, g1, g2, g3, rd (hB _ (List.mem_of_getElem? hi)) g4⟩
  · show fixed C S w B (C.be i) k = none
    cases hk : fixed C S w B (C.be i) k with
    | none => rfl
    | some v =>
      rcases fixed_new W B _ _ _ hk with h' | ⟨j, t, l, h1, h2, h3⟩
      · rw [W.sep i b (take_some hi).2 hb k] at h'; cases h'
      · exact absurd h3 (own hi hb j t l h1 h2)
  · obtain ⟨b, n, cap, sz, cur, g1, g2, g3, g4, g5, g6, g7, g8⟩ := W.ids g len e hg
    refine ⟨b, n, cap, sz, cur, g1, g2, g3, g4, g5, g6, fun k hk => ?_, fun i y hi hy => g8 i y (take_some hi).2 hy⟩
    show fixed C S w B b k = none
    cases hk' : fixed C S w B b k with
    | none => rfl
    | some v =>
      rcases fixed_new W B _ _ _ hk' with h' | ⟨j, t, l, h1, h2, h3⟩
      · rw [g7 k hk] at h'; cases h'
      · exact absurd h3 (g8 j _ h2 rfl)
  · rcases fixed_new W B b k v hv with h' | ⟨j, t, l, h1, h2, rfl⟩
    · exact W.known b k v h'
    · exact .inr (W.ownN j _ h2 rfl)

theorem ext_cut {C2 : Conf} {S2 : St} (W : WRel C2 S2 w0 N w) (x : Ext C S C2 S2) : Ext C S (C2.cut S2 w S.bx.length) (S2.cut S.bx.length) := by
  have lt : ∀ {i : Nat} {b : Box}, S.bx[i]? = some b → i < S.bx.length := fun {i b} h => by
    rcases Nat.lt_or_ge i S.bx.length with h' | h'
    · exact h'
    · simp [h'] at h
  refine ⟨x.sg.trans (fixed_le W _), fun i b hb hh => ?_, x.fr, ?_, fun i hi => (take_get (lt hi)).trans (x.aw i hi), fun i l hi => x.ro i l (take_some hi).2⟩
  · obtain ⟨b', h1, h2⟩ := x.bx i b hb hh
    exact ⟨b', (take_get (lt hb)).trans h1, h2⟩
  · have := x.len
    simp [St.cut]; omega

theorem callStep_ok {enter : CallF} (h : CallOK P E enter) : CallOK P E (callStep E enter) := by
  intro f args S r S' hc C w0 N w vs hg hw ha
  -- what a masked call gives
  have masked : ∀ (R : List Nat) {v : PV} {S1 : St}, fitted R S.bx args = true → enter f args ⟨maskFrom R 0 S.bx, S.fr⟩ = some (v, S1) → Gets P ((callFunc f vs).run P w) fun u w1 =>
      ∃ C2, S.bx.length ≤ S1.bx.length ∧ Ext C S C2 ⟨mergeFrom R 0 S.bx S1.bx ++ S1.bx.drop S.bx.length, S1.fr⟩ ∧ VRel C2 ⟨mergeFrom R 0 S.bx S1.bx ++ S1.bx.drop S.bx.length, S1.fr⟩ v u ∧
        WRel C2 ⟨mergeFrom R 0 S.bx S1.bx ++ S1.bx.drop S.bx.length, S1.fr⟩ w0 N w1 := by
    intro R v S1 hfit he
    simp only [fitted, Bool.and_eq_true, List.all_eq_true] at hfit
    have hWm := hw.mask hfit.2
    refine (h f args _ v S1 he C (baseOf w C.sg (fun i => (S.mask R).bx[i]? = some .hole)) (Tracked C (S.mask R)) w vs hg (hWm.rebase fun i hi => hi) ⟨ha.1, fun i h1 h2 => inside_rel (ha.2 i h1 h2) 4 (hfit.1 _ (List.getElem_mem h1))⟩).mono ?_
    rintro u w1 ⟨C1, x, hv, W1⟩
    have hlen : S.bx.length ≤ S1.bx.length := by
      have := x.len
      simpa [maskFrom_length] using this
    obtain ⟨C2, q1, q2, q3⟩ := merged hw (inR := fun i => R.any (Nat.beq i)) (Sm := S.mask R) rfl (fun i => S.mask_get R i) hWm x W1
      (S2 := ⟨mergeFrom R 0 S.bx S1.bx ++ S1.bx.drop S.bx.length, S1.fr⟩) rfl (fun i => by
        by_cases hi : i < S.bx.length
        · rw [List.getElem?_append_left (by rw [mergeFrom_length]; exact hi), mergeFrom_get R S.bx 0 S1.bx i hlen hi]
          simp [hi]
        · rw [List.getElem?_append_right (by rw [mergeFrom_length]; omega), mergeFrom_length, if_neg (by omega), List.getElem?_drop]
          congr 1
          omega) (by rw [List.length_append, mergeFrom_length]; omega)
    exact ⟨C2, hlen, q1, q2 _ _ hv, q3⟩
  unfold callStep at hc
  simp only [cond_eq_ite] at hc
  split at hc
  · -- raw
    split at hc
    · rename_i hfit
      split at hc
      · rename_i v S1 he
        simp at hc; obtain ⟨rfl, rfl⟩ := hc
        exact (masked _ hfit he).mono fun u w1 ⟨C2, _, q1, q2, q3⟩ => ⟨C2, q1, q2, q3⟩
      · cases hc
    · cases hc
  · split at hc
    · -- nothing of one's own
      rename_i args' hcl
      split at hc
      · rename_i v S1 he
        split at hc
        · rename_i v' hf
          simp at hc; obtain ⟨rfl, rfl⟩ := hc
          obtain ⟨m1, m2⟩ := mapO_spec hcl
          have hargs : ARel C St.empty args' vs := ⟨by rw [m1]; exact ha.1, fun i h1 h2 => .clean _ _ (clean_rel (m2 i (by omega) h1) (ha.2 i (by omega) h2))⟩
          refine (h f args' _ v S1 he C _ _ w vs hg (isolated hw) hargs).mono ?_
          rintro u w1 ⟨C1, x, hv, W1⟩
          exact frozen hw x.sg W1 hf hv
        · cases hc
      · cases hc
    · rename_i hcl
      split at hc
      · -- only reads
        split at hc
        · rename_i v S1 he
          split at hc
          · rename_i v' hf
            simp at hc; obtain ⟨rfl, rfl⟩ := hc
            obtain ⟨vr, W⟩ := lend_rel hw (reach S.bx 1024 (args.flatMap (refs 4)) [])
            refine (h f args _ v S1 he C _ _ w vs hg W ⟨ha.1, fun i h1 h2 => vr _ _ (ha.2 i h1 h2)⟩).mono ?_
            rintro u w1 ⟨C1, x, hv, W1⟩
            exact frozen hw x.sg W1 hf hv
          · cases hc
        · cases hc
      · split at hc
        rotate_left
        · cases hc
        rename_i hfit
        split at hc
        · rename_i v S1 he
          split at hc
          · rename_i v' ho
            split at hc
            · rename_i hb
              simp at hc; obtain ⟨rfl, rfl⟩ := hc
              refine (masked _ hfit he).mono ?_
              rintro u w1 ⟨C2, hlen, q1, q2, q3⟩
              generalize hR : reach S.bx 1024 (args.flatMap (refs 4)) [] = R at *
              have htake : (mergeFrom R 0 S.bx S1.bx ++ S1.bx.drop S.bx.length).take S.bx.length = mergeFrom R 0 S.bx S1.bx := by
                rw [List.take_append_of_le_length (by rw [mergeFrom_length]; exact Nat.le_refl _), List.take_of_length_le (by rw [mergeFrom_length]; exact Nat.le_refl _)]
              have hcut : St.cut ⟨mergeFrom R 0 S.bx S1.bx ++ S1.bx.drop S.bx.length, S1.fr⟩ S.bx.length = ⟨mergeFrom R 0 S.bx S1.bx, S1.fr⟩ := by
                simp only [St.cut, htake]
              have W3 := q3.cut (B := S.bx.length) (by simp only [htake]; exact hb) (fun i hi => by
                have := hw.hole i hi
                rcases Nat.lt_or_ge i S.bx.length with h' | h'
                · exact h'
                · simp [h'] at this)
              have x3 := ext_cut q3 q1
              have v3 := out_rel q3 (B := S.bx.length) (bx := S1.bx) (fun i t l hi hb => by
                simp only
                rw [List.getElem?_append_right (by rw [mergeFrom_length]; exact hi), mergeFrom_length, List.getElem?_drop]
                have : S.bx.length + (i - S.bx.length) = i := by omega
                rw [this]; exact hb) 12 ho q2
              rw [hcut] at W3 x3 v3
              exact ⟨_, x3, v3, W3⟩
            · cases hc
          · cases hc
        · cases hc

end
end Go.Am
