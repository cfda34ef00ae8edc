/- More steps: regions in any order, conditions, rows that grow. No condition. -/
import Derived.Test.YtbjfngebahogpaaGreatDoorAmG
namespace Go.Am

/-- A value, brought to its form, a truth to its own. -/
def forceB : Option (PV × St) → Option (PV × St)
  | none => none
  | some (v, S) => match v with
    | .int k n => some (.int k n, S)
    | .bool true => some (.bool true, S)
    | .bool false => some (.bool false, S)
    | .str l => some (.str l, S)
    | .nilptr => some (.nilptr, S)
    | .nilslice => some (.nilslice, S)
    | .niliface => some (.niliface, S)
    | .nilfunc => some (.nilfunc, S)
    | .slice k n c => some (.slice k n c, S)
    | .agg c => some (.agg c, S)
    | .tup c => some (.tup c, S)
    | .iface t u => some (.iface t u, S)
    | .func f a b => some (.func f a b, S)
    | .ptr i o => some (.ptr i o, S)
    | .ms i o n w => some (.ms i o n w, S)
    | .imm o c => some (.imm o c, S)

theorem forceB_eq {r x : Option (PV × St)} (h : forceB r = x) : r = x := by
  subst h
  cases r with
  | none => rfl
  | some y =>
    obtain ⟨v, S⟩ := y
    cases v with
    | bool b => cases b <;> rfl
    | _ => rfl

def calmE : Eff → Bool
  | .none => true
  | .reads _ _ _ => true
  | _ => false

/-- An operation that changes nothing, and reads at most. -/
def calmOp (hp : Bool) (o : Oper) : Bool :=
  match o.op with
  | .move _ => true
  | .assign _ => true
  | .pick _ _ _ => true
  | .build _ _ => true
  | .binOp _ _ _ _ _ => true
  | .unOp _ _ _ => true
  | .extract _ _ => true
  | .field _ _ _ => true
  | .fieldAddr _ _ _ => true
  | .indexAddr _ _ _ => true
  | .index _ _ _ => true
  | .load _ _ => true
  | .nilCheck _ => true
  | .convert _ _ _ => true
  | .call c => match c.callee with
    | .builtin .append => false
    | .builtin _ => true
    | _ => false
  | .buildSlice _ n _ => Nat.beq n 0 || !hp
  | _ => false

section
variable {E : Env} {hp : Bool} {F : Fr} {K : Fr → Prop} {l : List Rop} {d : Nat} {n : Nat} {regs : Regs} {D : List (PV × List PV)} {S : St} {Q : Ex → Fr → Prop}

theorem calm_eff {cf : CallF} {at_ : Option Nat} {ev : Operand → Option PV} {o : Oper} {r : PV × St} (h : calmOp hp o = true) (hr : opRun E cf hp at_ ev S o = some r) : calmE (effOf E hp at_ ev S o) = true := by
  unfold calmOp at h
  unfold opRun at hr
  unfold effOf
  cases ho : o.op <;> rw [ho] at h hr <;> dsimp only at h hr ⊢ <;> try (first | rfl | (cases h; done))
  case load t a =>
    cases ha : ev a with
    | none => rw [ha] at hr; cases hr
    | some p =>
      rw [ha] at hr
      dsimp only at hr
      unfold loadRun at hr
      cases ht : E.tt t with
      | none => rw [ht] at hr; simp [withS] at hr
      | some ti =>
        rw [ht] at hr
        cases p <;> dsimp only at hr ⊢ <;> try (first | rfl | (simp [withS] at hr; done))
        case ptr i off =>
          unfold sizeE
          rw [ht]; rfl
  case convert s t x =>
    cases hx : ev x with
    | none => rfl
    | some p => cases p <;> rfl
  case call c =>
    cases hc : c.callee with
    | builtin b => rw [hc] at h; cases b <;> first | rfl | (cases h; done)
    | value f => rw [hc] at h; cases h
    | invoke a b => rw [hc] at h; cases h
  case buildSlice t n ps => rw [h]; rfl

theorem calm_oper {cf : CallF} {ops : Array Oper} {o : Oper} {F F' : Fr} (h : calmOp hp o = true) (hr : operRun E cf hp ops none o F = some F') : calmE (effAt E hp ops none o F) = true := by
  unfold operRun at hr
  unfold effAt
  cases hg : guardOk ops F.regs o with
  | false => rfl
  | true =>
    rw [hg] at hr
    simp only [cond_true] at hr ⊢
    cases ho : o.op <;> rw [ho] at hr <;> dsimp only at hr <;> try (unfold calmOp at h; rw [ho] at h; cases h; done)
    all_goals
      split at hr
      · rename_i v S' hv
        exact calm_eff h hv
      · cases hr

theorem calm_draw {cf : CallF} {ops : Array Oper} : ∀ {l : List Oper} {F F' : Fr}, l.all (calmOp hp) = true → opsRun E cf hp ops l F = some F' → ∃ es, opsDraw E cf hp ops (l.map fun o => (none, o)) F = some (F', es) ∧ es.all calmE = true
  | [], F, F', _, h => by simp [opsRun] at h; subst h; exact ⟨[], rfl, rfl⟩
  | o :: l, F, F', ha, h => by
    simp only [List.all_cons, Bool.and_eq_true] at ha
    unfold opsRun at h
    split at h
    · rename_i F1 h1
      obtain ⟨es, q1, q2⟩ := calm_draw ha.2 h
      refine ⟨effAt E hp ops none o F :: es, ?_, ?_⟩
      · simp only [List.map_cons, opsDraw, h1, q1]
      · simp only [List.all_cons, Bool.and_eq_true]
        exact ⟨calm_oper ha.1 h1, q2⟩
    · cases h

theorem calm_apart {B : Nat} {a b : Eff} (ha : calmE a = true) (hb : calmE b = true) : apart B a b = true := by
  cases a <;> cases b <;> first | rfl | (cases ha; done) | (cases hb; done)

theorem calm_ordered {B : Nat} {before : Nat → Nat} : ∀ {es : List Eff} {i : Nat}, es.all calmE = true → ordered B before i es = true
  | [], _, _ => rfl
  | e :: r, i, h => by
    simp only [List.all_cons, Bool.and_eq_true] at h
    have go : ∀ (r : List Eff) (j : Nat), r.all calmE = true → ordered.go before B i e j r = true := by
      intro r
      induction r with
      | nil => intro j _; rfl
      | cons x r ih =>
        intro j hx
        simp only [List.all_cons, Bool.and_eq_true] at hx
        simp only [ordered.go, calm_apart h.1 hx.1, Bool.true_or, Bool.true_and]
        exact ih _ hx.2
    simp only [ordered, go r (i + 1) h.2, Bool.true_and]
    exact calm_ordered h.2

theorem calm_allocs {o : Oper} (h : calmOp hp o = true) : allocs hp o = false := by
  unfold calmOp at h
  unfold allocs
  cases ho : o.op <;> rw [ho] at h <;> first | rfl | (cases h; done)

theorem calm_places : ∀ {l : List Oper} {nx : Nat}, l.all (calmOp hp) = true → places hp l nx = l.map (fun o => (none, o)) ∧ countAllocs hp l = 0
  | [], _, _ => ⟨rfl, rfl⟩
  | o :: l, nx, h => by
    simp only [List.all_cons, Bool.and_eq_true] at h
    obtain ⟨h1, h2⟩ := calm_places (l := l) (nx := nx) h.2
    simp only [places, countAllocs, calm_allocs h.1, cond_false, h1, h2, List.map_cons, and_self]

/-- A region that stands in any order, where nothing is changed. -/
theorem cw_region_d {id : Nat} {ops : Array Oper} (hc : ops.toList.all (calmOp hp) = true) (h : OW E hp (ops.toList.map (rops ops)) F fun F' => Q .normal F') : CW E hp (.region id ops true) F Q := by
  obtain ⟨F', h1, h2⟩ := ow_run h.out
  obtain ⟨es, q1, q2⟩ := calm_draw hc h1
  obtain ⟨p1, p2⟩ := calm_places (l := ops.toList) (nx := F.S.bx.length) hc
  refine cw_of rfl ⟨.normal, F', ?_, h2⟩
  have hr : regionRun E (callW E) hp ops true F = some F' := by
    unfold regionRun
    rw [cond_true, p1, p2]
    have hS : holes 0 F.S = F.S := by
      unfold holes
      simp
    rw [hS, q1]
    dsimp only
    rw [calm_ordered q2]; rfl
  simp only [execStep, hr]

/-- An operation, its value brought to its form, a truth to its own. -/
theorem ow_fb {op : Op} {v : PV} {S' : St} (hd : d < n ∧ d < 4000) (hn : noDefer op) (hv : forceB (opRun E (callW E) hp none (evalO E regs) S ⟨some d, op, 0, "", #[], none⟩) = some (v, S')) (h : OW E hp l ⟨n, setR d v regs, D, S'⟩ K) :
    OW E hp (⟨some d, op, none⟩ :: l) ⟨n, regs, D, S⟩ K := ow_some hd hn (forceB_eq hv) h

/-- A truth that is not told: both ways. -/
theorem ow_sp {op : Op} {b : Bool} {S' : St} (hd : d < n ∧ d < 4000) (hn : noDefer op) (hv : opRun E (callW E) hp none (evalO E regs) S ⟨some d, op, 0, "", #[], none⟩ = some (.bool b, S'))
    (h1 : b = true → OW E hp l ⟨n, setR d (.bool true) regs, D, S'⟩ K) (h2 : b = false → OW E hp l ⟨n, setR d (.bool false) regs, D, S'⟩ K) : OW E hp (⟨some d, op, none⟩ :: l) ⟨n, regs, D, S⟩ K := by
  cases b with
  | true => exact ow_some hd hn hv (h1 rfl)
  | false => exact ow_some hd hn hv (h2 rfl)

/-- A value is handed on, whatever it is. -/
theorem ow_mv {x : Operand} {v : PV} (hd : d < n ∧ d < 4000) (hx : evalO E regs x = some v) (h : OW E hp l ⟨n, setR d v regs, D, S⟩ K) : OW E hp (⟨some d, .move x, none⟩ :: l) ⟨n, regs, D, S⟩ K :=
  ow_some hd trivial (by unfold opRun; simp only [hx, withS]) h
theorem ow_as {x : Operand} {v : PV} (hd : d < n ∧ d < 4000) (hx : evalO E regs x = some v) (h : OW E hp l ⟨n, setR d v regs, D, S⟩ K) : OW E hp (⟨some d, .assign x, none⟩ :: l) ⟨n, regs, D, S⟩ K :=
  ow_some hd trivial (by unfold opRun; simp only [hx, withS]) h

/-- A row that grows, of cells of one. -/
def outP (g : Nat) : List PV → PV
  | [] => .nilslice
  | a :: r => .slice (.id g) (r.length + 1) (a :: r)

/-- The state where it grows. -/
def outS (bx : List Box) (fr : List (Option (Nat × Nat))) (e : Nat) : List PV → St
  | [] => ⟨bx, fr⟩
  | a :: r => ⟨bx, fr ++ [some (r.length + 1, e)]⟩

/-- The row when it is handed out. -/
def outV : List PV → PV
  | [] => .nilslice
  | a :: r => .slice .sh (r.length + 1) (a :: r)

theorem append_out {bx : List Box} {fr : List (Option (Nat × Nat))} {e sT : Nat} {te : TI} {c : List PV} {v v' : PV} {kx : SK} {at_ : Option Nat} (he : elemE E sT = some (e, te)) (hs : te.size = 1) (hv : clean v = some v') (hf : fits (c.length + 1) te.bytes = true) :
    appendRun E false at_ (outS bx fr e c) sT (outP fr.length c) (.slice kx 1 [v]) = some (outP fr.length (c ++ [v']), outS bx fr e (c ++ [v'])) := by
  unfold appendRun
  have ha : ∀ S : St, appendedOf S 1 (.slice kx 1 [v]) = some (1, [v]) := fun _ => rfl
  have hc : mapO clean [v] = some [v'] := by simp [mapO, hv]
  simp only [he, hs, ha, hc]
  cases c with
  | nil =>
    have hf' : fits 1 te.bytes = true := hf
    simp [outP, outS, hf', cond_eq_ite]
  | cons a r =>
    have hf' : fits (r.length + 1 + 1) te.bytes = true := hf
    simp [outP, outS, hf', cond_eq_ite]

theorem ow_app {bx : List Box} {fr : List (Option (Nat × Nat))} {e : Nat} {te : TI} {c : List PV} {v v' : PV} {kx : SK} {cl : Call} {sT u : Nat} {x y : Operand} (hd : d < n ∧ d < 4000) (hhp : hp = false) (hS : S = outS bx fr e c) (hcl : cl.callee = .builtin .append) (hty : cl.argTypes.toList = [sT, u]) (har : cl.args.toList = [x, y]) (hrow : rowT E u = true)
    (hx : evalO E regs x = some (outP fr.length c)) (hy : evalO E regs y = some (.slice kx 1 [v])) (he : elemE E sT = some (e, te)) (hs : te.size = 1) (hv : clean v = some v') (hf : fits (c.length + 1) te.bytes = true)
    (h : OW E hp l ⟨n, setR d (outP fr.length (c ++ [v'])) regs, D, outS bx fr e (c ++ [v'])⟩ K) : OW E hp (⟨some d, .call cl, none⟩ :: l) ⟨n, regs, D, S⟩ K := by
  subst hhp; subst hS
  refine ow_some hd trivial ?_ h
  unfold opRun
  simp only [har, hcl, evArgs, hx, hy, hty, builtinRun, hrow, cond_true]
  exact append_out he hs hv hf

theorem ow_lenP {cl : Call} {t k : Nat} {x : Operand} {p : PV} (hd : d < n ∧ d < 4000) (hcl : cl.callee = .builtin .len) (hty : cl.argTypes.toList = [t]) (har : cl.args.toList = [x]) (hx : evalO E regs x = some p) (hl : lenRun E t p = some (.int .i64 (.ofNat k)))
    (h : OW E hp l ⟨n, setR d (.int .i64 (.ofNat k)) regs, D, S⟩ K) : OW E hp (⟨some d, .call cl, none⟩ :: l) ⟨n, regs, D, S⟩ K := by
  refine ow_some hd trivial ?_ h
  unfold opRun
  simp only [har, hcl, evArgs, hx, hty, builtinRun, hl]

theorem tells_feq {r r' : Regs} (h : ∀ t, getR t r = getR t r') : ∀ {l : List (Nat × PV)}, TellsAll r l → TellsAll r' l
  | [], _ => trivial
  | (_, _) :: _, ⟨h1, h2⟩ => ⟨(h _).symm.trans h1, tells_feq h h2⟩

theorem ow_ex {x : Operand} {i : Nat} {vs : List PV} {v : PV} (hd : d < n ∧ d < 4000) (hx : evalO E regs x = some (.tup vs)) (hv : vs[i]? = some v) (h : OW E hp l ⟨n, setR d v regs, D, S⟩ K) : OW E hp (⟨some d, .extract x i, none⟩ :: l) ⟨n, regs, D, S⟩ K :=
  ow_some hd trivial (by unfold opRun; simp only [hx, hv, withS]) h

/-- A small number is of another kind the same. -/
theorem ow_conv {s t m : Nat} {x : Operand} {k k' k'' : IntKind} {ts td : TI} (hd : d < n ∧ d < 4000) (hx : evalO E regs x = some (.int k (.ofNat m))) (hs : E.tt s = some ts) (ht : E.tt t = some td) (hks : ts.kind = .int k') (hkt : td.kind = .int k'') (hw : fwrap k'' (.ofNat m) = .ofNat m)
    (h : OW E hp l ⟨n, setR d (.int k'' (.ofNat m)) regs, D, S⟩ K) : OW E hp (⟨some d, .convert s t x, none⟩ :: l) ⟨n, regs, D, S⟩ K := by
  refine ow_some hd trivial ?_ h
  unfold opRun
  simp only [hx, convRun, hs, ht, hks, hkt, hw, withS]

theorem lenRun_outV {t e : Nat} {ti : TI} (ht : E.tt t = some ti) (hk : ti.kind = .slice e) (l : List PV) : lenRun E t (outV l) = some (.int .i64 (.ofNat l.length)) := by
  unfold lenRun
  rw [ht]
  simp only [hk]
  cases l <;> rfl

theorem ow_indexV {t e sz k : Nat} {x i : Operand} {ik : IntKind} {c : List PV} {ti : TI} (hd : d < n ∧ d < 4000) (ht : E.tt t = some ti) (hk : ti.kind = .slice e) (hs : sizeE E e = some sz) (hx : evalO E regs x = some (outV c))
    (hi : evalO E regs i = some (.int ik (.ofNat k))) (hlt : k < c.length) (h : OW E hp l ⟨n, setR d (.imm (k * sz) c) regs, D, S⟩ K) : OW E hp (⟨some d, .indexAddr t x i, none⟩ :: l) ⟨n, regs, D, S⟩ K := by
  cases c with
  | nil => simp at hlt
  | cons a r => exact ow_indexAddr hd ht hk hs hx hi hlt h

theorem ow_indexP {t e sz k g : Nat} {x i : Operand} {ik : IntKind} {c : List PV} {ti : TI} (hd : d < n ∧ d < 4000) (ht : E.tt t = some ti) (hk : ti.kind = .slice e) (hs : sizeE E e = some sz) (hx : evalO E regs x = some (outP g c))
    (hi : evalO E regs i = some (.int ik (.ofNat k))) (hlt : k < c.length) (h : OW E hp l ⟨n, setR d (.imm (k * sz) c) regs, D, S⟩ K) : OW E hp (⟨some d, .indexAddr t x i, none⟩ :: l) ⟨n, regs, D, S⟩ K := by
  cases c with
  | nil => simp at hlt
  | cons a r => exact ow_indexAddr hd ht hk hs hx hi hlt h

/-- What is told where a code comes to its end. -/
inductive CutK (n : Nat) (D : List (PV × List PV)) (T : St) (l : List (Nat × PV)) : Ex → Fr → Prop
  | normal {F : Fr} (h : F.n = n ∧ F.defers = D ∧ F.S = T ∧ TellsAll F.regs l) : CutK n D T l .normal F

/-- A block, and what is told behind it. -/
theorem cw_cut {c b : Code} {id : Nat} {T : St} (lt : List (Nat × PV)) (hq : Resp Q) (h1 : CW E hp c F (BlockK id (CutK n D T lt))) (h2 : ∀ g, CW E hp b ⟨n, .f (told lt g), D, T⟩ Q) :
    CW E hp c F (BlockK id (SeqK E hp b Q)) := by
  refine cw_mono h1 fun e F' h => ?_
  have key : ∀ {F' : Fr}, CutK n D T lt .normal F' → SeqK E hp b Q .normal F' := by
    intro F' h
    cases h with
    | normal h =>
      obtain ⟨q1, q2, q3, q4⟩ := h
      obtain ⟨n', regs', D', S'⟩ := F'
      dsimp only at q1 q2 q3 q4
      subst q1; subst q2; subst q3
      exact .normal (cw_told lt q4 hq h2)
  cases h with
  | normal h => exact .normal (key h)
  | ret h => cases h
  | here h => exact .here (key h)
  | there hk h => cases h

theorem resp_cut {T : St} {lt : List (Nat × PV)} : Resp (CutK n D T lt) := by
  intro e F G f h
  cases h with
  | normal h =>
    obtain ⟨h1, h2, h3, h4⟩ := h
    exact .normal ⟨f.n ▸ h1, f.d ▸ h2, f.S ▸ h3, tells_feq f.r h4⟩

theorem k_cut {T : St} {lt : List (Nat × PV)} (h1 : S = T) (h2 : TellsAll regs lt) : CutK n D T lt .normal ⟨n, regs, D, S⟩ := .normal ⟨rfl, rfl, h1, h2⟩

end
end Go.Am
