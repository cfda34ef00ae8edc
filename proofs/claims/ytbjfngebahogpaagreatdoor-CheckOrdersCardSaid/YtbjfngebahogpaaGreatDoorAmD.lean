/- Drawn regions: what an operation does depends on its operands alone. No condition. -/
import Derived.Test.YtbjfngebahogpaaGreatDoorAmC
namespace Go.Am

section
variable {E : Env} {ev ev' : Operand → Option PV}

theorem evArgs_congr : ∀ {l : List Operand}, (∀ x ∈ l, ev x = ev' x) → evArgs ev l = evArgs ev' l
  | [], _ => rfl
  | x :: l, h => by
    simp only [evArgs, h x (by simp), evArgs_congr (l := l) fun y hy => h y (by simp [hy])]

theorem evParts_congr : ∀ {l : List (Nat × Operand)}, (∀ x ∈ l, ev x.2 = ev' x.2) → evParts ev l = evParts ev' l
  | [], _ => rfl
  | (i, x) :: l, h => by
    simp only [evParts, h (i, x) (by simp), evParts_congr (l := l) fun y hy => h y (by simp [hy])]

theorem bound_congr {d : Nat} {o : Option Operand} (h : ∀ x, o = some x → ev x = ev' x) : bound ev d o = bound ev' d o := by
  cases o with
  | none => rfl
  | some x => simp only [bound, h x rfl]

theorem sliceRun_congr {S : St} {t : Nat} {p : PV} {lo hi mx : Option Operand} (h1 : ∀ x, lo = some x → ev x = ev' x) (h2 : ∀ x, hi = some x → ev x = ev' x) (h3 : ∀ x, mx = some x → ev x = ev' x) :
    sliceRun E S ev t p lo hi mx = sliceRun E S ev' t p lo hi mx := by
  unfold sliceRun
  have e1 := fun d => bound_congr (d := d) h1
  have e2 := fun d => bound_congr (d := d) h2
  have e3 := fun d => bound_congr (d := d) h3
  simp only [e1, e2, e3]

theorem opRun_congr {cf : CallF} {hp : Bool} {at_ : Option Nat} {S : St} {o : Oper} (h : ∀ x ∈ o.op.operands, ev x = ev' x) : opRun E cf hp at_ ev S o = opRun E cf hp at_ ev' S o := by
  unfold opRun
  cases ho : o.op <;> rw [ho] at h <;> simp only [Op.operands] at h <;> try dsimp only
  case pick c a b => simp only [h c (by simp), h a (by simp), h b (by simp)]
  case build t ps => rw [evParts_congr (l := ps.toList) fun x hx => h x.2 (by simp; exact ⟨x.1, by simpa using hx⟩)]
  case buildSlice t n ps => rw [evParts_congr (l := ps.toList) fun x hx => h x.2 (by simp; exact ⟨x.1, by simpa using hx⟩)]
  case store t a x => simp only [h a (by simp), h x (by simp)]
  case binOp op t x y p => simp only [h x (by simp), h y (by simp)]
  case indexAddr t x i => simp only [h x (by simp), h i (by simp)]
  case index t x i => simp only [h x (by simp), h i (by simp)]
  case makeFunc f a b =>
    cases f <;> dsimp only
    rw [evArgs_congr (l := a.toList) fun x hx => h x (by simp; exact .inl (by simpa using hx)), evArgs_congr (l := b.toList) fun x hx => h x (by simp; exact .inr (by simpa using hx))]
  case slice t x lo hi mx =>
    rw [h x (by simp)]
    split
    · rw [sliceRun_congr (fun y hy => h y (by subst hy; simp)) (fun y hy => h y (by subst hy; simp)) (fun y hy => h y (by subst hy; simp))]
    · rfl
  case call c =>
    simp only [Call.operands] at h
    rw [evArgs_congr (l := c.args.toList) fun x hx => h x (by simp; exact .inr (by simpa using hx))]
    cases hc : c.callee with
    | value f => simp only [h f (by simp [hc])]
    | builtin b => rfl
    | invoke r n => rfl
  all_goals first | rfl | (rename_i x; simp only [h x (by simp)]) | (rename_i x _; simp only [h x (by simp)]) | (rename_i x _ _; simp only [h x (by simp)]) | (rename_i x _ _ _; simp only [h x (by simp)]) | skip

theorem effOf_congr {hp : Bool} {at_ : Option Nat} {S : St} {o : Oper} (h : ∀ x ∈ o.op.operands, ev x = ev' x) : effOf E hp at_ ev S o = effOf E hp at_ ev' S o := by
  unfold effOf
  cases ho : o.op <;> rw [ho] at h <;> simp only [Op.operands] at h <;> try dsimp only
  case store t a x => simp only [h a (by simp)]
  case slice t x lo hi mx => rw [h x (by simp)]
  case call c =>
    simp only [Call.operands] at h
    rw [evArgs_congr (l := c.args.toList) fun x hx => h x (by simp; exact .inr (by simpa using hx))]
    cases hc : c.callee with
    | value f => simp only [h f (by simp [hc])]
    | builtin b =>
      cases b <;> try rfl
      dsimp only
      match hl : c.args.toList with
      | [] => rfl
      | [_] => rfl
      | [_, x] =>
        dsimp only
        rw [h x (by have : x ∈ c.args.toList := by rw [hl]; simp
                    simp [hc]; simpa using this)]
      | _ :: _ :: _ :: _ => rfl
    | invoke r n => rfl
  all_goals first | rfl | (rename_i x; simp only [h x (by simp)]) | (rename_i x _; simp only [h x (by simp)]) | (rename_i x _ _; simp only [h x (by simp)]) | (rename_i x _ _ _; simp only [h x (by simp)]) | skip

end
end Go.Am

/- Drawn regions: what is quiet. No condition. -/
namespace Go.Am

section
variable {E : Env} {ev : Operand → Option PV} {enter : CallF} {hp : Bool} {at_ : Option Nat} {S S' : St} {o : Oper} {v : PV}

theorem loadRun_imm (S S2 : St) (t off : Nat) (c : List PV) : loadRun E S t (.imm off c) = loadRun E S2 t (.imm off c) := rfl

theorem convRun_quiet (S S2 : St) (s d : Nat) {x : PV} (h : ∀ i off n w, x ≠ .ms i off n w) : convRun E S s d x = convRun E S2 s d x := by
  unfold convRun
  cases E.tt s <;> try rfl
  cases E.tt d <;> try rfl
  rename_i ts td
  dsimp only
  generalize ts.kind = k1
  generalize td.kind = k2
  cases x with
  | ms i off n w => exact absurd rfl (h i off n w)
  | _ => cases k1 <;> try rfl
         all_goals (cases k2 <;> rfl)

theorem sliceRun_quiet (S S2 : St) (t : Nat) {x : PV} (lo hi mx : Option Operand) (h : ∀ i off, x ≠ .ptr i off) : sliceRun E S ev t x lo hi mx = sliceRun E S2 ev t x lo hi mx := by
  unfold sliceRun
  cases E.tt t <;> try rfl
  rename_i ti
  dsimp only
  generalize ti.kind = k1
  cases x with
  | ptr i off => exact absurd rfl (h i off)
  | _ => cases k1 <;> rfl

/-- An operation without effect: what it gives has nothing to do with the state. -/
theorem none_const (he : effOf E hp at_ ev S o = .none) : ∃ q, ∀ S2, effOf E hp at_ ev S2 o = .none ∧ opRun E (callStep E enter) hp at_ ev S2 o = withS S2 q := by
  unfold effOf at he
  unfold effOf opRun
  cases ho : o.op <;> simp only [ho] at he ⊢
  case move x => exact ⟨ev x, fun S2 => ⟨by first | trivial | rfl | assumption, by rfl⟩⟩
  case assign x => exact ⟨ev x, fun S2 => ⟨by first | trivial | rfl | assumption, by rfl⟩⟩
  case pick c a b =>
    cases hc : ev c with
    | none => exact ⟨none, fun S2 => ⟨by first | trivial | rfl | assumption, by rfl⟩⟩
    | some p =>
      cases p with
      | bool t => exact ⟨_, fun S2 => ⟨by first | trivial | rfl | assumption, by rfl⟩⟩
      | _ => exact ⟨none, fun S2 => ⟨by first | trivial | rfl | assumption, by rfl⟩⟩
  case alloc t => cases at_ <;> cases he
  case box t x => cases at_ <;> cases he
  case range t x => cases at_ <;> cases he
  case build t ps =>
    cases hti : E.tt t with
    | none => exact ⟨none, fun S2 => ⟨by first | trivial | rfl | assumption, by rfl⟩⟩
    | some ti =>
      cases hps : evParts ev ps.toList with
      | none => exact ⟨none, fun S2 => ⟨by first | trivial | rfl | assumption, by rfl⟩⟩
      | some vs =>
        dsimp only
        cases hk : ti.kind with
        | struct fs =>
          dsimp only
          cases fillL (placeOf E fs) ti.zero vs with
          | none => exact ⟨none, fun S2 => ⟨by first | trivial | rfl | assumption, by rfl⟩⟩
          | some cs => exact ⟨some (.agg cs), fun S2 => ⟨by first | trivial | rfl | assumption, by rfl⟩⟩
        | arr n e =>
          dsimp only
          cases sizeE E e with
          | none => exact ⟨none, fun S2 => ⟨by first | trivial | rfl | assumption, by rfl⟩⟩
          | some sz =>
            dsimp only
            cases fillL (fun i => some (i * sz, sz)) ti.zero vs with
            | none => exact ⟨none, fun S2 => ⟨by first | trivial | rfl | assumption, by rfl⟩⟩
            | some cs => exact ⟨some (.agg cs), fun S2 => ⟨by first | trivial | rfl | assumption, by rfl⟩⟩
        | _ => exact ⟨none, fun S2 => ⟨by first | trivial | rfl | assumption, by rfl⟩⟩
  case buildSlice t n ps =>
    cases hti : elemE E t with
    | none => exact ⟨none, fun S2 => ⟨he, rfl⟩⟩
    | some x =>
      obtain ⟨e, te⟩ := x
      cases hps : evParts ev ps.toList with
      | none => exact ⟨none, fun S2 => ⟨he, rfl⟩⟩
      | some vs =>
        dsimp only
        cases h0 : n.beq 0 with
        | true =>
          simp only [cond_true]
          cases hp <;> cases vs <;> first | exact ⟨none, fun S2 => ⟨rfl, rfl⟩⟩ | exact ⟨some (.slice .full 0 []), fun S2 => ⟨rfl, rfl⟩⟩
        | false =>
          simp only [cond_false]
          cases hp with
          | true => rw [h0] at he; cases he
          | false =>
            simp only [cond_false]
            cases (n * te.size).ble 65536 && Nat.blt 0 (n * te.size) with
            | false => exact ⟨none, fun S2 => ⟨rfl, rfl⟩⟩
            | true =>
              simp only [cond_true]
              cases fillL (fun i => some (i * te.size, te.size)) (repl n te.zero) vs with
              | none => exact ⟨none, fun S2 => ⟨rfl, rfl⟩⟩
              | some cs =>
                dsimp only
                cases mapO clean cs with
                | none => exact ⟨none, fun S2 => ⟨rfl, rfl⟩⟩
                | some cs => exact ⟨some (.slice .full n cs), fun S2 => ⟨rfl, rfl⟩⟩
  case load t a =>
    cases ha : ev a with
    | none => rw [ha] at he; cases he
    | some p =>
      rw [ha] at he
      cases p with
      | imm off c => exact ⟨loadRun E S t (.imm off c), fun S2 => ⟨by first | trivial | rfl | assumption, by rfl⟩⟩
      | ptr i off => dsimp only at he; split at he <;> cases he
      | _ => cases he
  case store t a x =>
    cases ha : ev a with
    | none => rw [ha] at he; cases he
    | some p =>
      rw [ha] at he
      cases p with
      | ptr i off => dsimp only at he; split at he <;> cases he
      | _ => cases he
  case nilCheck x =>
    cases ev x with
    | none => exact ⟨none, fun S2 => ⟨by first | trivial | rfl | assumption, by rfl⟩⟩
    | some p => cases p <;> first | exact ⟨none, fun S2 => ⟨by first | trivial | rfl | assumption, by rfl⟩⟩ | exact ⟨some _, fun S2 => ⟨by first | trivial | rfl | assumption, by rfl⟩⟩
  case binOp op t x y p =>
    cases ev x with
    | none => exact ⟨none, fun S2 => ⟨by first | trivial | rfl | assumption, by rfl⟩⟩
    | some a => cases ev y with
      | none => exact ⟨none, fun S2 => ⟨by first | trivial | rfl | assumption, by rfl⟩⟩
      | some b => exact ⟨_, fun S2 => ⟨by first | trivial | rfl | assumption, by rfl⟩⟩
  case unOp op t x =>
    cases ev x with
    | none => exact ⟨none, fun S2 => ⟨by first | trivial | rfl | assumption, by rfl⟩⟩
    | some a => exact ⟨_, fun S2 => ⟨by first | trivial | rfl | assumption, by rfl⟩⟩
  case convert s d x =>
    cases hx : ev x with
    | none => exact ⟨none, fun S2 => ⟨by first | trivial | rfl | assumption, by rfl⟩⟩
    | some a =>
      rw [hx] at he
      have hn : ∀ i off n w, a ≠ .ms i off n w := fun i off n w e => by subst e; cases he
      refine ⟨convRun E S s d a, fun S2 => ⟨?_, ?_⟩⟩
      · cases a <;> first | rfl | exact absurd rfl (hn _ _ _ _)
      · dsimp only; rw [convRun_quiet S2 S s d hn]
  case makeInterface t x =>
    cases hti : E.tt t with
    | none =>
      refine ⟨none, fun S2 => ⟨he, ?_⟩⟩
      cases ev x <;> rfl
    | some ti =>
      cases hx : ev x with
      | none => exact ⟨none, fun S2 => ⟨by first | trivial | rfl | assumption, by rfl⟩⟩
      | some a =>
        rw [hx] at he
        dsimp only
        generalize ti.kind = k
        cases a with
        | ptr i off => cases he
        | _ =>
          all_goals
            cases k <;> first
            | exact ⟨none, fun S2 => ⟨by first | trivial | rfl | assumption, by rfl⟩⟩
            | (dsimp only
               generalize clean _ = c
               cases c with
               | none => exact ⟨none, fun S2 => ⟨by first | trivial | rfl | assumption, by rfl⟩⟩
               | some c => exact ⟨some (.iface t c), fun S2 => ⟨by first | trivial | rfl | assumption, by rfl⟩⟩)
  case makeFunc f a b =>
    cases f with
    | func f =>
      dsimp only
      cases evArgs ev a.toList with
      | none => exact ⟨none, fun S2 => ⟨by first | trivial | rfl | assumption, by rfl⟩⟩
      | some a => cases evArgs ev b.toList with
        | none => exact ⟨none, fun S2 => ⟨by first | trivial | rfl | assumption, by rfl⟩⟩
        | some b => exact ⟨some (.func f a b), fun S2 => ⟨by first | trivial | rfl | assumption, by rfl⟩⟩
    | _ => exact ⟨none, fun S2 => ⟨by first | trivial | rfl | assumption, by rfl⟩⟩
  case slice t x lo hi mx =>
    cases hx : ev x with
    | none => exact ⟨none, fun S2 => ⟨by first | trivial | rfl | assumption, by rfl⟩⟩
    | some a =>
      rw [hx] at he
      have hn : ∀ i off, a ≠ .ptr i off := fun i off e => by subst e; cases he
      refine ⟨sliceRun E S ev t a lo hi mx, fun S2 => ⟨?_, ?_⟩⟩
      · cases a <;> first | rfl | exact absurd rfl (hn _ _)
      · dsimp only; rw [sliceRun_quiet S2 S t lo hi mx hn]
  case fieldAddr t x f =>
    cases E.tt t with
    | none => exact ⟨none, fun S2 => ⟨by first | trivial | rfl | assumption, by rfl⟩⟩
    | some ti =>
      cases ev x with
      | none => exact ⟨none, fun S2 => ⟨by first | trivial | rfl | assumption, by rfl⟩⟩
      | some a =>
        dsimp only
        cases ti.kind with
        | struct fs =>
          dsimp only
          cases placeOf E fs f with
          | none => exact ⟨none, fun S2 => ⟨by first | trivial | rfl | assumption, by rfl⟩⟩
          | some y =>
            obtain ⟨off, s⟩ := y
            dsimp only
            cases s.beq 0 with
            | true => exact ⟨none, fun S2 => ⟨by first | trivial | rfl | assumption, by rfl⟩⟩
            | false =>
              simp only [cond_false]
              cases a <;> first | exact ⟨none, fun S2 => ⟨by first | trivial | rfl | assumption, by rfl⟩⟩ | exact ⟨some _, fun S2 => ⟨by first | trivial | rfl | assumption, by rfl⟩⟩
        | _ => exact ⟨none, fun S2 => ⟨by first | trivial | rfl | assumption, by rfl⟩⟩
  case field t x f =>
    cases E.tt t with
    | none => exact ⟨none, fun S2 => ⟨by first | trivial | rfl | assumption, by rfl⟩⟩
    | some ti =>
      cases ev x with
      | none => exact ⟨none, fun S2 => ⟨by first | trivial | rfl | assumption, by rfl⟩⟩
      | some a =>
        cases a with
        | agg cs =>
          dsimp only
          cases ti.kind with
          | struct fs =>
            dsimp only
            cases fs[f]? with
            | none => exact ⟨none, fun S2 => ⟨by first | trivial | rfl | assumption, by rfl⟩⟩
            | some y => exact ⟨_, fun S2 => ⟨by first | trivial | rfl | assumption, by rfl⟩⟩
          | _ => exact ⟨none, fun S2 => ⟨by first | trivial | rfl | assumption, by rfl⟩⟩
        | _ => exact ⟨none, fun S2 => ⟨by first | trivial | rfl | assumption, by rfl⟩⟩
  case indexAddr t x i =>
    cases ev x with
    | none => exact ⟨none, fun S2 => ⟨by first | trivial | rfl | assumption, by rfl⟩⟩
    | some a => cases ev i with
      | none => exact ⟨none, fun S2 => ⟨by first | trivial | rfl | assumption, by rfl⟩⟩
      | some k =>
        dsimp only
        cases asNat k with
        | none => exact ⟨none, fun S2 => ⟨by first | trivial | rfl | assumption, by rfl⟩⟩
        | some k => exact ⟨_, fun S2 => ⟨by first | trivial | rfl | assumption, by rfl⟩⟩
  case index t x i =>
    cases ev x with
    | none => exact ⟨none, fun S2 => ⟨by first | trivial | rfl | assumption, by rfl⟩⟩
    | some a => cases ev i with
      | none => exact ⟨none, fun S2 => ⟨by first | trivial | rfl | assumption, by rfl⟩⟩
      | some k =>
        dsimp only
        cases asNat k with
        | none => exact ⟨none, fun S2 => ⟨by first | trivial | rfl | assumption, by rfl⟩⟩
        | some k => exact ⟨_, fun S2 => ⟨by first | trivial | rfl | assumption, by rfl⟩⟩
  case typeAssert x t a comma =>
    cases ev x with
    | none => exact ⟨none, fun S2 => ⟨by first | trivial | rfl | assumption, by rfl⟩⟩
    | some a => exact ⟨_, fun S2 => ⟨by first | trivial | rfl | assumption, by rfl⟩⟩
  case extract x i =>
    cases ev x with
    | none => exact ⟨none, fun S2 => ⟨by first | trivial | rfl | assumption, by rfl⟩⟩
    | some a => cases a <;> first | exact ⟨none, fun S2 => ⟨by first | trivial | rfl | assumption, by rfl⟩⟩ | exact ⟨_, fun S2 => ⟨by first | trivial | rfl | assumption, by rfl⟩⟩
  case call c =>
    cases hargs : evArgs ev c.args.toList with
    | none =>
      refine ⟨none, fun S2 => ⟨?_, rfl⟩⟩
      rw [hargs] at he
      cases hc : c.callee with
      | value f =>
        rw [hc] at he
        dsimp only at he
        split at he
        · rename_i h2; cases h2
        · cases he
      | builtin b => rw [hc] at he; cases b <;> first | rfl | exact he
      | invoke r n => rw [hc] at he; cases he
    | some args =>
      dsimp only
      cases hc : c.callee with
      | invoke r n => rw [hc] at he; cases he
      | builtin b =>
        rw [hc] at he
        dsimp only
        cases b with
        | append =>
          dsimp only at he
          cases hp with
          | true => cases he
          | false =>
            simp only [cond_false] at he
            split at he
            · split at he <;> cases he
            · cases he
        | len =>
          unfold builtinRun
          match c.argTypes.toList, args with
          | [t], [x] =>
            dsimp only
            cases lenRun E t x with
            | none => exact ⟨none, fun S2 => ⟨rfl, rfl⟩⟩
            | some v => exact ⟨some v, fun S2 => ⟨rfl, rfl⟩⟩
          | [], _ => exact ⟨none, fun S2 => ⟨rfl, rfl⟩⟩
          | _ :: _ :: _, _ => exact ⟨none, fun S2 => ⟨rfl, rfl⟩⟩
          | [_], [] => exact ⟨none, fun S2 => ⟨rfl, rfl⟩⟩
          | [_], _ :: _ :: _ => exact ⟨none, fun S2 => ⟨rfl, rfl⟩⟩
        | max =>
          unfold builtinRun
          match args with
          | [] => exact ⟨none, fun S2 => ⟨rfl, rfl⟩⟩
          | x :: r =>
            cases x with
            | int k a =>
              dsimp only
              cases minmax true (.int k a) r with
              | none => exact ⟨none, fun S2 => ⟨rfl, rfl⟩⟩
              | some v => exact ⟨some v, fun S2 => ⟨rfl, rfl⟩⟩
            | _ => exact ⟨none, fun S2 => ⟨rfl, rfl⟩⟩
        | min =>
          unfold builtinRun
          match args with
          | [] => exact ⟨none, fun S2 => ⟨rfl, rfl⟩⟩
          | x :: r =>
            cases x with
            | int k a =>
              dsimp only
              cases minmax false (.int k a) r with
              | none => exact ⟨none, fun S2 => ⟨rfl, rfl⟩⟩
              | some v => exact ⟨some v, fun S2 => ⟨rfl, rfl⟩⟩
            | _ => exact ⟨none, fun S2 => ⟨rfl, rfl⟩⟩
        | _ => exact ⟨none, fun S2 => ⟨rfl, rfl⟩⟩
      | value f =>
        rw [hc] at he
        dsimp only at he ⊢
        cases hf : ev f with
        | none => rw [hf] at he; cases he
        | some p =>
          rw [hf, hargs] at he
          cases p with
          | func g first cap =>
            dsimp only at he ⊢
            cases hr : E.raw g with
            | true => rw [hr] at he; cases he
            | false =>
              rw [hr] at he
              simp only [cond_false] at he ⊢
              cases hm : mapO clean (first ++ args ++ cap) with
              | none => rw [hm] at he; dsimp only at he; cases hro : E.ro g <;> rw [hro] at he <;> cases he
              | some args' =>
                unfold callStep
                simp only [hr, cond_false, hm]
                cases enter g args' St.empty with
                | none => exact ⟨none, fun S2 => ⟨trivial, rfl⟩⟩
                | some x =>
                  obtain ⟨v, S1⟩ := x
                  dsimp only
                  cases fz 0 S1.bx 12 v with
                  | none => exact ⟨none, fun S2 => ⟨trivial, rfl⟩⟩
                  | some v => exact ⟨some v, fun S2 => ⟨trivial, rfl⟩⟩
          | _ => cases he
  all_goals first | exact ⟨none, fun S2 => ⟨by first | trivial | rfl | assumption, by rfl⟩⟩ | exact absurd he (by simp)

end
end Go.Am

/- Drawn regions: what reads, what changes what. No condition. -/
namespace Go.Am

section
variable {E : Env} {ev : Operand → Option PV} {enter : CallF} {hp : Bool} {at_ : Option Nat} {S S' : St} {o : Oper} {v : PV}

/-- An operation that reads: what it gives has to do with these cells alone. -/
theorem reads_const {cf : CallF} {i off n : Nat} (he : effOf E hp at_ ev S o = .reads i off n) :
    ∃ q : Option (List PV) → Option PV, ∀ S2, effOf E hp at_ ev S2 o = .reads i off n ∧ opRun E cf hp at_ ev S2 o = withS S2 (q (lookup S2.bx i off n)) := by
  unfold effOf at he
  unfold effOf opRun
  cases ho : o.op <;> simp only [ho] at he ⊢
  case load t a =>
    cases ha : ev a with
    | none => rw [ha] at he; cases he
    | some p =>
      rw [ha] at he
      cases p with
      | ptr j b =>
        dsimp only at he ⊢
        cases ht : E.tt t with
        | none => simp only [sizeE, ht] at he; cases he
        | some ti =>
          simp only [sizeE, ht] at he ⊢
          cases he
          refine ⟨fun c => match c with | some c => ofAgg ti.agg c | none => none, fun S2 => ⟨rfl, ?_⟩⟩
          simp only [loadRun, ht]
          cases lookup S2.bx i off ti.size <;> rfl
      | _ => cases he
  case convert s d x =>
    cases hx : ev x with
    | none => rw [hx] at he; cases he
    | some p =>
      rw [hx] at he
      cases p with
      | ms j b m wd =>
        dsimp only at he ⊢
        cases he
        unfold convRun
        cases E.tt s with
        | none => exact ⟨fun _ => none, fun S2 => ⟨rfl, rfl⟩⟩
        | some ts =>
          cases E.tt d with
          | none => exact ⟨fun _ => none, fun S2 => ⟨rfl, rfl⟩⟩
          | some td =>
            dsimp only
            generalize ts.kind = k1
            generalize td.kind = k2
            cases k1 <;> cases k2 <;> first
            | exact ⟨fun _ => none, fun S2 => ⟨rfl, rfl⟩⟩
            | (rename_i e
               exact ⟨fun c => bif isU8 E e && Nat.beq n m then (match c with | some c => (bytesOf c).map .str | none => none) else none, fun S2 => ⟨rfl, rfl⟩⟩)
      | _ => cases he
  case alloc => cases at_ <;> cases he
  case box => cases at_ <;> cases he
  case range => cases at_ <;> cases he
  case buildSlice t m ps => cases h : (Nat.beq m 0 || !hp) <;> rw [h] at he <;> cases he
  case store t a x =>
    split at he
    · split at he <;> cases he
    · cases he
  case slice => split at he <;> cases he
  case makeInterface => split at he <;> cases he
  case call c =>
    split at he
    · cases hp
      · simp only [cond_false] at he
        split at he
        · split at he <;> cases he
        · cases he
      · cases he
    · cases he
    · split at he
      · rename_i f _ _ g first cap args _ _
        cases h1 : E.raw g <;> rw [h1] at he
        · simp only [cond_false] at he
          split at he
          · cases he
          · cases h2 : E.ro g <;> rw [h2] at he <;> cases he
        · cases he
      · cases he
    · cases he
  all_goals cases he

/-- A call that only reads. -/
theorem looks_same (he : effOf E hp at_ ev S o = .looks) (h : opRun E (callStep E enter) hp at_ ev S o = some (v, S')) : S' = S := by
  unfold effOf at he
  unfold opRun at h
  cases ho : o.op <;> simp only [ho] at he h
  case alloc => cases at_ <;> cases he
  case box => cases at_ <;> cases he
  case range => cases at_ <;> cases he
  case buildSlice t m ps => cases h : (Nat.beq m 0 || !hp) <;> rw [h] at he <;> cases he
  case load =>
    split at he
    · split at he <;> cases he
    · cases he
    · cases he
  case store t a x =>
    split at he
    · split at he <;> cases he
    · cases he
  case convert => split at he <;> cases he
  case slice => split at he <;> cases he
  case makeInterface => split at he <;> cases he
  case call c =>
    split at he
    · cases hp
      · simp only [cond_false] at he
        split at he
        · split at he <;> cases he
        · cases he
      · cases he
    · cases he
    · rename_i f hf
      split at he
      · rename_i g first cap args hfv hargs
        rw [hargs] at h
        simp only [hf, hfv] at h
        cases h1 : E.raw g <;> rw [h1] at he
        · simp only [cond_false] at he
          split at he
          · cases he
          · rename_i hm
            cases h2 : E.ro g <;> rw [h2] at he
            · cases he
            · unfold callStep at h
              simp only [h1, cond_false, hm, h2, cond_true] at h
              split at h
              · split at h
                · simp at h; exact h.2.symm
                · cases h
              · cases h
        · cases he
      · cases he
    · cases he
  all_goals cases he

theorem lookup_eq {bx bx' : List Box} {i off n : Nat} (h : bx'[i]? = bx[i]?) : lookup bx' i off n = lookup bx i off n := by
  unfold lookup; rw [h]

theorem splice_part {l vs : List PV} {off a n : Nat} (h : off + vs.length ≤ l.length) (hd : a + n ≤ off ∨ off + vs.length ≤ a) : ((splice l off vs).drop a).take n = (l.drop a).take n := by
  apply List.ext_getElem?
  intro k
  simp only [List.getElem?_take, List.getElem?_drop]
  split
  · unfold splice
    rw [splice_get l vs off (a + k) h, if_neg (by omega)]
  · rfl

theorem lookup_write {bx bx' : List Box} {i off n j b : Nat} {vs : List PV} (h : write bx j b vs = some bx') (hd : i ≠ j ∨ off + n ≤ b ∨ b + vs.length ≤ off) : lookup bx' i off n = lookup bx i off n := by
  obtain ⟨t, l, hj, hle, rfl⟩ := write_spec h
  by_cases e : i = j
  · subst e
    have hlt : i < bx.length := by
      rcases Nat.lt_or_ge i bx.length with h' | h'
      · exact h'
      · simp [h'] at hj
    have hlen : (splice l b vs).length = l.length := by simp [splice]; omega
    have h2 : (bx.set i (.cells t (splice l b vs)))[i]? = some (.cells t (splice l b vs)) := by simp [hlt]
    unfold lookup
    rw [h2, hj]
    simp only [hlen]
    rw [splice_part hle (by omega)]
  · exact lookup_eq (by rw [List.getElem?_set_ne (fun h => e h.symm)])

theorem mergeFrom_not (R : List Nat) : ∀ (l : List Box) (k : Nat) (new : List Box) (i : Nat), R.any (Nat.beq (k + i)) = false → (mergeFrom R k l new)[i]? = l[i]?
  | [], k, new, i, _ => by simp [mergeFrom]
  | b :: l, k, new, i, h => by
    cases i with
    | zero =>
      simp only [Nat.add_zero] at h
      simp [mergeFrom, h]
    | succ i =>
      simp only [mergeFrom, List.getElem?_cons_succ]
      refine mergeFrom_not R l (k + 1) new.tail i ?_
      have : k + 1 + i = k + (i + 1) := by omega
      rw [this]; exact h

theorem merge_get {R : List Nat} {bx new tl : List Box} {i : Nat} (hi : i < bx.length) (hR : notIn R i = true) : (mergeFrom R 0 bx new ++ tl)[i]? = bx[i]? := by
  rw [List.getElem?_append_left (by rw [mergeFrom_length]; exact hi)]
  simp only [notIn, Bool.not_eq_true'] at hR
  exact mergeFrom_not R bx 0 new i (by simpa using hR)

/-- A call leaves alone what it is not handed. -/
theorem call_keeps {f : Nat} {args : List PV} (h : callStep E enter f args S = some (v, S')) {i : Nat} (hi : i < S.bx.length) (hR : notIn (reach S.bx 1024 (args.flatMap (refs 4)) []) i = true) : S'.bx[i]? = S.bx[i]? := by
  unfold callStep at h
  cases h1 : E.raw f <;> rw [h1] at h
  · simp only [cond_false] at h
    split at h
    · split at h
      · split at h
        · simp at h; rw [← h.2]
        · cases h
      · cases h
    · cases h2 : E.ro f <;> rw [h2] at h
      · simp only [cond_false] at h
        cases hfit : fitted (reach S.bx 1024 (args.flatMap (refs 4)) []) S.bx args <;> rw [hfit] at h
        · cases h
        simp only [cond_true] at h
        split at h
        · split at h
          · simp only [cond_eq_ite] at h
            split at h
            · simp at h
              rw [← h.2]
              have := merge_get (tl := []) (new := (by assumption : St).bx) hi hR
              simpa using this
            · cases h
          · cases h
        · cases h
      · simp only [cond_true] at h
        split at h
        · split at h
          · simp at h; rw [← h.2]
          · cases h
        · cases h
  · simp only [cond_true] at h
    cases hfit : fitted (reach S.bx 1024 (args.flatMap (refs 4)) []) S.bx args <;> rw [hfit] at h
    · cases h
    simp only [cond_true] at h
    split at h
    · simp at h
      rw [← h.2]
      exact merge_get hi hR
    · cases h

theorem call_len {f : Nat} {args : List PV} (h : callStep E enter f args S = some (v, S')) : S.bx.length ≤ S'.bx.length := by
  unfold callStep at h
  cases h1 : E.raw f <;> rw [h1] at h
  · simp only [cond_false] at h
    split at h
    · split at h
      · split at h
        · simp at h; rw [← h.2]; exact Nat.le_refl _
        · cases h
      · cases h
    · cases h2 : E.ro f <;> rw [h2] at h
      · simp only [cond_false] at h
        cases hfit : fitted (reach S.bx 1024 (args.flatMap (refs 4)) []) S.bx args <;> rw [hfit] at h
        · cases h
        simp only [cond_true] at h
        split at h
        · split at h
          · simp only [cond_eq_ite] at h
            split at h
            · simp at h
              rw [← h.2]
              simp only [mergeFrom_length]; exact Nat.le_refl _
            · cases h
          · cases h
        · cases h
      · simp only [cond_true] at h
        split at h
        · split at h
          · simp at h; rw [← h.2]; exact Nat.le_refl _
          · cases h
        · cases h
  · simp only [cond_true] at h
    cases hfit : fitted (reach S.bx 1024 (args.flatMap (refs 4)) []) S.bx args <;> rw [hfit] at h
    · cases h
    simp only [cond_true] at h
    split at h
    · simp at h
      rw [← h.2]
      simp only [List.length_append, mergeFrom_length]; omega
    · cases h

end
end Go.Am

/- Drawn regions: two operations that are apart may change places. No condition. -/
namespace Go.Am

section
variable {E : Env} {ev : Operand → Option PV} {enter : CallF} {hp : Bool} {at_ : Option Nat} {S S' : St} {o : Oper} {v : PV}

/-- Which operations change something. -/
def EffInv (E : Env) (hp : Bool) (at_ : Option Nat) (ev : Operand → Option PV) (S : St) (o : Oper) : Eff → Prop
  | .writes j b m => ∃ t a x, o.op = .store t a x ∧ ev a = some (.ptr j b) ∧ sizeE E t = some m
  | .makes k => at_ = some k ∧ ((∃ t, o.op = .alloc t) ∨ (∃ t x, o.op = .box t x) ∨ ∃ t x, o.op = .range t x)
  | .touches raw R => ∃ c, o.op = .call c ∧ ((∃ f g first cap args, c.callee = .value f ∧ ev f = some (.func g first cap) ∧ evArgs ev c.args.toList = some args ∧ raw = E.raw g ∧ R = reach S.bx 1024 ((first ++ args ++ cap).flatMap (refs 4)) []) ∨
      (c.callee = .builtin .append ∧ hp = false ∧ raw = false ∧ R = []))
  | _ => True

theorem eff_inv : EffInv E hp at_ ev S o (effOf E hp at_ ev S o) := by
  unfold effOf
  cases ho : o.op <;> simp only []
  case alloc t => cases at_ <;> simp [EffInv, ho]
  case box t x => cases at_ <;> simp [EffInv, ho]
  case range t x => cases at_ <;> simp [EffInv, ho]
  case buildSlice t m ps => cases (Nat.beq m 0 || !hp) <;> trivial
  case load t a =>
    split
    · split <;> trivial
    · trivial
    · trivial
  case store t a x =>
    split
    · rename_i i off ha
      split
      · rename_i n hn; exact ⟨t, a, x, ho, ha, hn⟩
      · trivial
    · trivial
  case convert => split <;> trivial
  case slice => split <;> trivial
  case makeInterface => split <;> trivial
  case call c =>
    split
    · rename_i hb
      cases hp
      · simp only [cond_false]
        split
        · split
          · trivial
          · exact ⟨c, ho, .inr ⟨hb, rfl, rfl, rfl⟩⟩
        · trivial
      · trivial
    · trivial
    · rename_i f hf
      split
      · rename_i g first cap args hfv hargs
        cases hr : E.raw g
        · simp only [cond_false]
          split
          · trivial
          · cases E.ro g
            · exact ⟨c, ho, .inl ⟨f, g, first, cap, args, hf, hfv, hargs, hr.symm, rfl⟩⟩
            · trivial
        · exact ⟨c, ho, .inl ⟨f, g, first, cap, args, hf, hfv, hargs, hr.symm, rfl⟩⟩
      · trivial
    · trivial
  all_goals trivial

theorem newBox_at {k i : Nat} {b : Box} (h : newBox (some k) S b = some (i, S')) : i = k ∧ S.bx[k]? = some .hole ∧ S' = ⟨S.bx.set k b, S.fr⟩ := by
  simp only [newBox] at h
  split at h
  · rename_i hk
    simp at h
    exact ⟨h.1.symm, hk, h.2.symm⟩
  · cases h

/-- What makes a box fills the place that was kept, with what has nothing to do with the state. -/
theorem makes_const {cf : CallF} {k : Nat} (he : effOf E hp at_ ev S o = .makes k) (h : opRun E cf hp at_ ev S o = some (v, S')) :
    ∃ b, v = .ptr k 0 ∧ S.bx[k]? = some .hole ∧ S' = ⟨S.bx.set k b, S.fr⟩ ∧ ∀ S2 : St, S2.bx[k]? = some .hole → effOf E hp at_ ev S2 o = .makes k ∧ opRun E cf hp at_ ev S2 o = some (.ptr k 0, ⟨S2.bx.set k b, S2.fr⟩) := by
  have hi := eff_inv (E := E) (hp := hp) (at_ := at_) (ev := ev) (S := S) (o := o)
  rw [he] at hi
  obtain ⟨rfl, hi⟩ := hi
  have fill : ∀ (b : Box) (S2 : St), S2.bx[k]? = some .hole → newBox (some k) S2 b = some (k, ⟨S2.bx.set k b, S2.fr⟩) := fun b S2 h2 => by simp only [newBox, h2]
  rcases hi with ⟨t, ho⟩ | ⟨t, x, ho⟩ | ⟨t, x, ho⟩
  · unfold opRun at h ⊢
    unfold effOf
    simp only [ho] at h ⊢
    cases ht : E.tt t with
    | none => rw [ht] at h; cases h
    | some ti =>
      rw [ht] at h
      dsimp only at h ⊢
      split at h
      · rename_i i S1 hn
        simp at h
        obtain ⟨h1, h2, h3⟩ := newBox_at hn
        refine ⟨_, by rw [← h.1, h1], h2, by rw [← h.2]; exact h3, fun S2 hS2 => ⟨trivial, ?_⟩⟩
        rw [fill _ S2 hS2]
      · cases h
  · unfold opRun at h ⊢
    unfold effOf
    simp only [ho] at h ⊢
    cases hx : ev x with
    | none => rw [hx] at h; cases h
    | some y =>
      rw [hx] at h
      dsimp only at h ⊢
      cases hf : y.flat with
      | false => rw [hf] at h; cases h
      | true =>
        rw [hf] at h
        simp only [cond_true] at h ⊢
        split at h
        · rename_i i S1 hn
          simp at h
          obtain ⟨h1, h2, h3⟩ := newBox_at hn
          refine ⟨_, by rw [← h.1, h1], h2, by rw [← h.2]; exact h3, fun S2 hS2 => ⟨trivial, ?_⟩⟩
          rw [fill _ S2 hS2]
        · cases h
  · unfold opRun at h ⊢
    unfold effOf
    simp only [ho] at h ⊢
    cases ht : E.tt t with
    | none => rw [ht] at h; cases h
    | some ti =>
      cases hx : ev x with
      | none => rw [ht, hx] at h; cases h
      | some y =>
        rw [ht, hx] at h
        cases y with
        | str l =>
          dsimp only at h ⊢
          cases hk : ti.kind with
          | str =>
            rw [hk] at h
            dsimp only at h ⊢
            split at h
            · rename_i i S1 hn
              simp at h
              obtain ⟨h1, h2, h3⟩ := newBox_at hn
              refine ⟨_, by rw [← h.1, h1], h2, by rw [← h.2]; exact h3, fun S2 hS2 => ⟨trivial, ?_⟩⟩
              rw [fill _ S2 hS2]
            · cases h
          | _ => rw [hk] at h; cases h
        | _ => cases h

end
end Go.Am

/- Drawn regions: two operations that are apart may change places. No condition. -/
namespace Go.Am

section
variable {E : Env} {ev : Operand → Option PV} {enter : CallF} {hp : Bool} {at_ : Option Nat} {S S' : St} {o : Oper} {v : PV}

theorem append_bx {s x : PV} {t : Nat} (h : appendRun E false at_ S t s x = some (v, S')) : S'.bx = S.bx := by
  unfold appendRun at h
  split at h
  · cases h
  · split at h
    · cases h
    · simp only [cond_eq_ite] at h
      split at h
      · cases h
      · split at h
        · split at h <;> first | (simp at h; rw [← h.2]) | cases h
        · split at h
          · cases h
          · simp only [Bool.false_eq_true, if_false] at h
            split at h
            · cases h
            · split at h
              · split at h
                · simp at h; rw [← h.2]
                · cases h
              · split at h
                · split at h
                  · simp at h; rw [← h.2]
                  · split at h
                    · split at h
                      · simp at h; rw [← h.2]
                      · cases h
                    · cases h
                  · cases h
                · cases h
              · cases h

theorem touches_keeps {raw : Bool} {R : List Nat} (he : effOf E hp at_ ev S o = .touches raw R) (h : opRun E (callStep E enter) hp at_ ev S o = some (v, S')) :
    S.bx.length ≤ S'.bx.length ∧ ∀ i, i < S.bx.length → notIn R i = true → S'.bx[i]? = S.bx[i]? := by
  have hi := eff_inv (E := E) (hp := hp) (at_ := at_) (ev := ev) (S := S) (o := o)
  rw [he] at hi
  obtain ⟨c, ho, ⟨f, g, first, cap, args, hc, hf, hargs, _, rfl⟩ | ⟨hc, rfl, _, _⟩⟩ := hi
  · unfold opRun at h
    simp only [ho, hargs, hc, hf] at h
    exact ⟨call_len h, fun i h1 h2 => call_keeps h h1 h2⟩
  · unfold opRun at h
    simp only [ho, hc] at h
    split at h
    · unfold builtinRun at h
      split at h
      · rename_i hcb
        simp only [cond_eq_ite] at h
        split at h
        · rw [append_bx h]; exact ⟨Nat.le_refl _, fun _ _ _ => rfl⟩
        · cases h
      · split at h
        · simp at h; rw [← h.2]; exact ⟨Nat.le_refl _, fun _ _ _ => rfl⟩
        · cases h
      · split at h
        · simp at h; rw [← h.2]; exact ⟨Nat.le_refl _, fun _ _ _ => rfl⟩
        · cases h
      · split at h
        · simp at h; rw [← h.2]; exact ⟨Nat.le_refl _, fun _ _ _ => rfl⟩
        · cases h
      · cases h
    · cases h

/-- What changes cells, boxes, lineages leaves alone what is apart from it. -/
theorem stable {B i off n : Nat} (h : opRun E (callStep E enter) hp at_ ev S o = some (v, S')) (hB : B ≤ S.bx.length)
    (ha : apart B (.reads i off n) (effOf E hp at_ ev S o) = true ∨ apart B (effOf E hp at_ ev S o) (.reads i off n) = true) : lookup S'.bx i off n = lookup S.bx i off n := by
  have hi := eff_inv (E := E) (hp := hp) (at_ := at_) (ev := ev) (S := S) (o := o)
  cases he : effOf E hp at_ ev S o with
  | none =>
    obtain ⟨q, hq⟩ := none_const (enter := enter) he
    rw [(hq S).2] at h
    rw [(withS_spec h).2]
  | reads j b m =>
    obtain ⟨q, hq⟩ := reads_const (cf := callStep E enter) he
    rw [(hq S).2] at h
    rw [(withS_spec h).2]
  | looks => rw [looks_same he h]
  | all => rw [he] at ha; simp [apart] at ha
  | writes j b m =>
    have hd : i ≠ j ∨ off + n ≤ b ∨ b + m ≤ off := by
      rw [he] at ha
      simp only [apart, or_self, Bool.or_eq_true, Bool.not_eq_true', Nat.ble_eq] at ha
      rcases ha with h' | h'
      · exact .inl (fun e => by subst e; simp at h')
      · exact .inr h'
    rw [he] at hi
    obtain ⟨t, a, x, ho, hj', hm⟩ := hi
    unfold opRun at h
    simp only [ho, hj'] at h
    cases hx : ev x with
    | none => rw [hx] at h; cases h
    | some y =>
      cases ht : E.tt t with
      | none => rw [hx, ht] at h; cases h
      | some ti =>
        simp only [sizeE, ht, Option.some.injEq] at hm
        rw [hx, ht] at h
        simp only [cond_eq_ite, Bool.and_eq_true, nat_beq] at h
        split at h
        · rename_i hf
          split at h
          · rename_i bx hb
            simp at h
            rw [← h.2]
            exact lookup_write hb (by rw [hf.2, hm]; exact hd)
          · cases h
        · cases h
  | makes k =>
    have hd : i ≠ k := by
      rw [he] at ha
      simp only [apart, or_self, Bool.not_eq_true'] at ha
      intro e; subst e; simp at ha
    obtain ⟨b, _, _, rfl, _⟩ := makes_const he h
    exact lookup_eq (by rw [List.getElem?_set_ne (fun e => hd e.symm)])
  | touches raw R =>
    have hd : i < B ∧ notIn R i = true := by
      rw [he] at ha
      simp only [apart, or_self, Bool.and_eq_true, Nat.blt_eq] at ha
      exact ha
    exact lookup_eq ((touches_keeps he h).2 i (by omega) hd.2)

end
end Go.Am

/- Drawn regions: two operations that are apart change places. No condition. -/
namespace Go.Am

theorem reach_seen : ∀ (n : Nat) (bx : List Box) (todo seen : List Nat) (j : Nat), seen.any (Nat.beq j) = true → (reach bx n todo seen).any (Nat.beq j) = true
  | 0, bx, todo, seen, j, h => by cases todo <;> exact h
  | n + 1, bx, [], seen, j, h => h
  | n + 1, bx, i :: todo, seen, j, h => by
    simp only [reach, cond_eq_ite]
    split
    · exact reach_seen n bx todo seen j h
    · exact reach_seen n bx _ _ j (by simp [h])

/-- A place that is not come by may be filled. -/
theorem reach_set {k : Nat} {b : Box} : ∀ (n : Nat) (bx : List Box) (todo seen : List Nat), notIn (reach bx n todo seen) k = true → reach (bx.set k b) n todo seen = reach bx n todo seen
  | 0, bx, todo, seen, _ => by cases todo <;> rfl
  | n + 1, bx, [], seen, _ => rfl
  | n + 1, bx, i :: todo, seen, h => by
    simp only [reach, cond_eq_ite] at h ⊢
    split
    · rename_i hs
      rw [if_pos hs] at h
      exact reach_set n bx todo seen h
    · rename_i hs
      rw [if_neg hs] at h
      have hne : k ≠ i := by
        intro e
        subst e
        simp only [notIn, Bool.not_eq_true'] at h
        rw [reach_seen n bx _ (k :: seen) k (by simp [Nat.beq_refl])] at h
        cases h
      rw [List.getElem?_set_ne hne]
      exact reach_set n bx _ _ h

theorem maskFrom_set {R : List Nat} {i : Nat} {b : Box} : ∀ (l : List Box) (k : Nat), R.any (Nat.beq (k + i)) = false → maskFrom R k (l.set i b) = maskFrom R k l := by
  intro l
  induction l generalizing i with
  | nil => intro k _; rfl
  | cons x l ih =>
    intro k h
    cases i with
    | zero =>
      simp only [Nat.add_zero] at h
      simp [maskFrom, h]
    | succ i =>
      simp only [List.set_cons_succ, maskFrom]
      rw [ih (k + 1) (by have : k + 1 + i = k + (i + 1) := by omega
                         rw [this]; exact h)]

theorem mergeFrom_set {R : List Nat} {i : Nat} {b : Box} : ∀ (l : List Box) (k : Nat) (new : List Box), R.any (Nat.beq (k + i)) = false → mergeFrom R k (l.set i b) new = (mergeFrom R k l new).set i b := by
  intro l
  induction l generalizing i with
  | nil => intro k new _; rfl
  | cons x l ih =>
    intro k new h
    cases i with
    | zero =>
      simp only [Nat.add_zero] at h
      simp [mergeFrom, h]
    | succ i =>
      simp only [List.set_cons_succ, mergeFrom]
      rw [ih (k + 1) new.tail (by have : k + 1 + i = k + (i + 1) := by omega
                                  rw [this]; exact h)]

theorem fittedFrom_set {R : List Nat} {i : Nat} {b : Box} : ∀ (l : List Box) (k : Nat), R.any (Nat.beq (k + i)) = false → fittedFrom R k (l.set i b) = fittedFrom R k l := by
  intro l
  induction l generalizing i with
  | nil => intro k _; rfl
  | cons x l ih =>
    intro k h
    cases i with
    | zero =>
      simp only [Nat.add_zero] at h
      simp [fittedFrom, h]
    | succ i =>
      simp only [List.set_cons_succ, fittedFrom]
      rw [ih (k + 1) (by have : k + 1 + i = k + (i + 1) := by omega
                         rw [this]; exact h)]

section
variable {E : Env} {ev : Operand → Option PV} {enter : CallF} {hp : Bool} {at_ : Option Nat} {S S' : St} {o : Oper} {v : PV}

/-- A call of the raw kind does not see a place that it does not come by. -/
theorem raw_set {f : Nat} {args : List PV} (hr : E.raw f = true) (h : callStep E enter f args S = some (v, S')) {k : Nat} {b : Box} (hk : k < S.bx.length) (hR : notIn (reach S.bx 1024 (args.flatMap (refs 4)) []) k = true) :
    callStep E enter f args ⟨S.bx.set k b, S.fr⟩ = some (v, ⟨S'.bx.set k b, S'.fr⟩) := by
  have e1 := reach_set (b := b) 1024 S.bx (args.flatMap (refs 4)) [] hR
  have hR' : (reach S.bx 1024 (args.flatMap (refs 4)) []).any (Nat.beq (0 + k)) = false := by simpa [notIn] using hR
  unfold callStep at h ⊢
  simp only [hr, cond_true] at h ⊢
  rw [e1]
  have e2 : fitted (reach S.bx 1024 (args.flatMap (refs 4)) []) (S.bx.set k b) args = fitted (reach S.bx 1024 (args.flatMap (refs 4)) []) S.bx args := by
    unfold fitted; rw [fittedFrom_set S.bx 0 hR']
  rw [e2]
  cases hfit : fitted (reach S.bx 1024 (args.flatMap (refs 4)) []) S.bx args <;> rw [hfit] at h
  · cases h
  simp only [cond_true] at h ⊢
  rw [maskFrom_set S.bx 0 hR']
  split at h
  · rename_i v1 S1 he
    simp at h
    simp only [Option.some.injEq, Prod.mk.injEq]
    refine ⟨h.1, ?_⟩
    rw [← h.2, mergeFrom_set S.bx 0 S1.bx hR']
    simp only [List.length_set]
    rw [List.set_append_left _ _ (by rw [mergeFrom_length]; exact hk)]
  · cases h

end
end Go.Am

/- Drawn regions: what an operation does, as a function of what it looks at; two operations that are apart change places. No condition. -/
namespace Go.Am

abbrev Dl := List (PV × List PV)

/-- What an operation gives, what is deferred and the state behind it. -/
def opAct (E : Env) (cf : CallF) (hp : Bool) (ops : Array Oper) (at_ : Option Nat) (o : Oper) (regs : Regs) (D : Dl) (S : St) : Option (PV × Dl × St) :=
  bif guardOk ops regs o then
    match o.op with
    | .defer c => match c.callee with
      | .value f => match evalO E regs f, evArgs (evalO E regs) c.args.toList with
        | some (.func g fi ca), some args => some (undef, (.func g fi ca, args) :: D, S)
        | _, _ => none
      | _ => none
    | _ => match opRun E cf hp at_ (evalO E regs) S o with
      | some (v, S) => some (v, D, S)
      | none => none
  else some (undef, D, S)

def effA (E : Env) (hp : Bool) (ops : Array Oper) (at_ : Option Nat) (o : Oper) (regs : Regs) (S : St) : Eff :=
  bif guardOk ops regs o then effOf E hp at_ (evalO E regs) S o else .none

theorem operRun_act (E : Env) (cf : CallF) (hp : Bool) (ops : Array Oper) (at_ : Option Nat) (o : Oper) (F : Fr) :
    operRun E cf hp ops at_ o F = match opAct E cf hp ops at_ o F.regs F.defers F.S with
      | some (v, D, S) => putF F o.dst v D S
      | none => none := by
  unfold operRun opAct
  cases guardOk ops F.regs o with
  | false => rfl
  | true =>
    simp only [cond_true]
    cases o.op <;> dsimp only
    case defer c =>
      cases c.callee <;> dsimp only
      case value f =>
        cases evalO E F.regs f with
        | none => rfl
        | some p =>
          cases p with
          | func g fi ca => cases evArgs (evalO E F.regs) c.args.toList <;> rfl
          | _ => rfl
    all_goals cases opRun E cf hp at_ (evalO E F.regs) F.S o <;> rfl

/-- Registers that an operation looks at are the same. -/
def Agree (ops : Array Oper) (o : Oper) (r r' : Regs) : Prop := ∀ t, t ∈ o.looksAt ops → getR t r = getR t r'

theorem agree_ev {E : Env} {ops : Array Oper} {o : Oper} {r r' : Regs} (h : Agree ops o r r') : ∀ x ∈ o.op.operands, evalO E r x = evalO E r' x := by
  intro x hx
  cases x with
  | tmp t =>
    simp only [evalO]
    rw [h t]
    unfold Oper.looksAt
    exact List.mem_append_left _ (List.mem_filterMap.2 ⟨.tmp t, by simpa using hx, rfl⟩)
  | _ => rfl

theorem agree_guard {ops : Array Oper} {o : Oper} {r r' : Regs} (h : Agree ops o r r') : guardOk ops r o = guardOk ops r' o := by
  unfold guardOk
  cases hg : o.guard with
  | none => rfl
  | some x =>
    obtain ⟨j, want⟩ := x
    dsimp only
    cases ht : (ops[j]?).bind (·.dst) with
    | none => rfl
    | some t =>
      dsimp only
      rw [h t]
      unfold Oper.looksAt
      refine List.mem_append_right _ ?_
      simp [hg, ht]

theorem effA_congr {E : Env} {hp : Bool} {ops : Array Oper} {at_ : Option Nat} {o : Oper} {r r' : Regs} (h : Agree ops o r r') (S : St) : effA E hp ops at_ o r S = effA E hp ops at_ o r' S := by
  unfold effA
  rw [agree_guard h, effOf_congr (agree_ev h)]

theorem opAct_congr {E : Env} {cf : CallF} {hp : Bool} {ops : Array Oper} {at_ : Option Nat} {o : Oper} {r r' : Regs} (h : Agree ops o r r') (D : Dl) (S : St) :
    opAct E cf hp ops at_ o r D S = opAct E cf hp ops at_ o r' D S := by
  have e := agree_ev (E := E) h
  unfold opAct
  rw [agree_guard h, opRun_congr (cf := cf) (hp := hp) (at_ := at_) (S := S) e]
  cases ho : o.op <;> try rfl
  rename_i c
  rw [ho] at e
  simp only [Op.operands, Call.operands] at e
  dsimp only
  rw [evArgs_congr (l := c.args.toList) fun x hx => e x (by simp; exact .inr (by simpa using hx))]
  cases hc : c.callee with
  | value f => simp only [e f (by simp [hc])]
  | builtin b => rfl
  | invoke r n => rfl

section
variable {E : Env} {enter : CallF} {hp : Bool} {ops : Array Oper} {at_ : Option Nat} {S S' : St} {D D' : Dl} {o : Oper} {v : PV} {r : Regs}

/-- What has an effect that is not 'all' leaves what is deferred alone, and has nothing to do with it. -/
theorem act_run (he : effA E hp ops at_ o r S ≠ .all) (h : opAct E (callStep E enter) hp ops at_ o r D S = some (v, D', S')) :
    D' = D ∧ ((guardOk ops r o = true ∧ effA E hp ops at_ o r S = effOf E hp at_ (evalO E r) S o ∧ opRun E (callStep E enter) hp at_ (evalO E r) S o = some (v, S') ∧
      ∀ (S2 : St) (D2 : Dl) (v2 : PV) (S2' : St), opRun E (callStep E enter) hp at_ (evalO E r) S2 o = some (v2, S2') → opAct E (callStep E enter) hp ops at_ o r D2 S2 = some (v2, D2, S2')) ∨
      (guardOk ops r o = false ∧ v = undef ∧ S' = S)) := by
  unfold effA at he ⊢
  unfold opAct at h ⊢
  cases hg : guardOk ops r o with
  | false =>
    rw [hg] at h
    simp at h
    exact ⟨h.2.1.symm, .inr ⟨rfl, h.1.symm, h.2.2.symm⟩⟩
  | true =>
    rw [hg] at h he
    simp only [cond_true] at h he ⊢
    have nd : ∀ c, o.op ≠ .defer c := fun c hc => he (by unfold effOf; rw [hc])
    have key : ∀ (S2 : St) (D2 : Dl), (match o.op with
        | .defer c => match c.callee with
          | .value f => match evalO E r f, evArgs (evalO E r) c.args.toList with
            | some (.func g fi ca), some args => some (undef, (PV.func g fi ca, args) :: D2, S2)
            | _, _ => none
          | _ => none
        | _ => match opRun E (callStep E enter) hp at_ (evalO E r) S2 o with
          | some (v, S) => some (v, D2, S)
          | none => none) = match opRun E (callStep E enter) hp at_ (evalO E r) S2 o with
          | some (v, S) => some (v, D2, S)
          | none => none := by
      intro S2 D2
      cases hop : o.op <;> first | rfl | exact absurd hop (nd _)
    rw [key] at h
    split at h
    · rename_i v1 S1 h1
      simp at h
      obtain ⟨rfl, rfl, rfl⟩ := h
      refine ⟨rfl, .inl ⟨trivial, trivial, h1, fun S2 D2 v2 S2' h2 => ?_⟩⟩
      rw [key, h2]
    · cases h

/-- What has no effect. -/
theorem act_none (he : effA E hp ops at_ o r S = .none) (h : opAct E (callStep E enter) hp ops at_ o r D S = some (v, D', S')) :
    D' = D ∧ S' = S ∧ ∀ (S2 : St) (D2 : Dl), effA E hp ops at_ o r S2 = .none ∧ opAct E (callStep E enter) hp ops at_ o r D2 S2 = some (v, D2, S2) := by
  obtain ⟨rfl, h1⟩ := act_run (by rw [he]; exact fun h => by cases h) h
  rcases h1 with ⟨hg, e, h1, h2⟩ | ⟨hg, rfl, rfl⟩
  · rw [e] at he
    obtain ⟨q, hq⟩ := none_const (enter := enter) he
    rw [(hq S).2] at h1
    obtain ⟨hq1, rfl⟩ := withS_spec h1
    refine ⟨rfl, rfl, fun S2 D2 => ⟨?_, h2 S2 D2 v S2 ?_⟩⟩
    · unfold effA; rw [hg]; exact (hq S2).1
    · rw [(hq S2).2, hq1]; rfl
  · refine ⟨rfl, rfl, fun S2 D2 => ⟨?_, ?_⟩⟩
    · unfold effA; rw [hg]; rfl
    · unfold opAct; rw [hg]; rfl

/-- Boxes do not become fewer. -/
theorem act_len {B : Nat} (he : effA E hp ops at_ o r S ≠ .all) (h : opAct E (callStep E enter) hp ops at_ o r D S = some (v, D', S')) (hB : B ≤ S.bx.length) : B ≤ S'.bx.length := by
  obtain ⟨rfl, h1⟩ := act_run he h
  rcases h1 with ⟨hg, e, h1, _⟩ | ⟨hg, rfl, rfl⟩
  · rw [e] at he
    have hi := eff_inv (E := E) (hp := hp) (at_ := at_) (ev := evalO E r) (S := S) (o := o)
    cases hf : effOf E hp at_ (evalO E r) S o with
    | none =>
      obtain ⟨q, hq⟩ := none_const (enter := enter) hf
      rw [(hq S).2] at h1
      rw [(withS_spec h1).2]; exact hB
    | reads i off n =>
      obtain ⟨q, hq⟩ := reads_const (cf := callStep E enter) hf
      rw [(hq S).2] at h1
      rw [(withS_spec h1).2]; exact hB
    | looks => rw [looks_same hf h1]; exact hB
    | writes j b m =>
      rw [hf] at hi
      obtain ⟨t, a, x, ho, hj', hm⟩ := hi
      unfold opRun at h1
      simp only [ho, hj'] at h1
      cases hx : evalO E r x with
      | none => rw [hx] at h1; cases h1
      | some y =>
        cases ht : E.tt t with
        | none => rw [hx, ht] at h1; cases h1
        | some ti =>
          rw [hx, ht] at h1
          simp only [cond_eq_ite] at h1
          split at h1
          · split at h1
            · rename_i bx hb
              simp at h1
              obtain ⟨t', l, _, _, rfl⟩ := write_spec hb
              rw [← h1.2]; simpa using hB
            · cases h1
          · cases h1
    | makes k =>
      obtain ⟨b, _, _, rfl, _⟩ := makes_const hf h1
      simpa using hB
    | touches raw R => exact Nat.le_trans hB (touches_keeps hf h1).1
    | all => exact absurd hf he
  · exact hB

end
end Go.Am

/- Drawn regions: two operations that are apart change places. No condition. -/
namespace Go.Am

section
variable {E : Env} {enter : CallF} {hp : Bool} {ops : Array Oper}

theorem apart_all {B : Nat} {e : Eff} (he : e ≠ .none) : apart B .all e = false ∧ apart B e .all = false := by
  cases e <;> first | exact absurd rfl he | exact ⟨rfl, rfl⟩

/-- A raw call and what fills a place. -/
theorem touches_raw {at_ : Option Nat} {ev : Operand → Option PV} {S S1 : St} {o : Oper} {v : PV} {R : List Nat} (he : effOf E hp at_ ev S o = .touches true R) (h : opRun E (callStep E enter) hp at_ ev S o = some (v, S1)) {k : Nat} {b : Box}
    (hk : k < S.bx.length) (hR : notIn R k = true) :
    effOf E hp at_ ev ⟨S.bx.set k b, S.fr⟩ o = .touches true R ∧ opRun E (callStep E enter) hp at_ ev ⟨S.bx.set k b, S.fr⟩ o = some (v, ⟨S1.bx.set k b, S1.fr⟩) := by
  have hi := eff_inv (E := E) (hp := hp) (at_ := at_) (ev := ev) (S := S) (o := o)
  rw [he] at hi
  obtain ⟨c, ho, ⟨f, g, first, cap, args, hc, hf, hargs, hraw, rfl⟩ | ⟨_, _, h0, _⟩⟩ := hi
  · unfold opRun at h ⊢
    unfold effOf
    simp only [ho, hargs, hc, hf] at h ⊢
    simp only [← hraw, cond_true]
    exact ⟨by rw [reach_set (b := b) 1024 S.bx _ [] hR], raw_set hraw.symm h hk hR⟩
  · cases h0

theorem run_swap {B : Nat} {x y : Oper} {ax ay : Option Nat} {ev : Operand → Option PV} {S S1 S2 : St} {vx vy : PV}
    (hx : opRun E (callStep E enter) hp ax ev S x = some (vx, S1)) (hy : opRun E (callStep E enter) hp ay ev S1 y = some (vy, S2)) (hB : B ≤ S.bx.length) (hB1 : B ≤ S1.bx.length)
    (hxn : effOf E hp ax ev S x ≠ .none) (hyn : effOf E hp ay ev S1 y ≠ .none) (ha : apart B (effOf E hp ax ev S x) (effOf E hp ay ev S1 y) = true) :
    ∃ S', opRun E (callStep E enter) hp ay ev S y = some (vy, S') ∧ effOf E hp ay ev S y = effOf E hp ay ev S1 y ∧
      opRun E (callStep E enter) hp ax ev S' x = some (vx, S2) ∧ effOf E hp ax ev S' x = effOf E hp ax ev S x := by
  -- x reads, y does what it does
  have left : ∀ i off n, effOf E hp ax ev S x = .reads i off n → (effOf E hp ay ev S1 y = effOf E hp ay ev S1 y) → ∃ S', opRun E (callStep E enter) hp ay ev S y = some (vy, S') ∧ effOf E hp ay ev S y = effOf E hp ay ev S1 y ∧
      opRun E (callStep E enter) hp ax ev S' x = some (vx, S2) ∧ effOf E hp ax ev S' x = effOf E hp ax ev S x := by
    intro i off n he _
    obtain ⟨q, hq⟩ := reads_const (cf := callStep E enter) he
    rw [(hq S).2] at hx
    obtain ⟨h1, rfl⟩ := withS_spec hx
    rw [he] at ha
    have hs := stable hy hB (.inl ha)
    exact ⟨S2, hy, rfl, by rw [(hq S2).2, hs, h1]; rfl, by rw [(hq S2).1, he]⟩
  have right : ∀ i off n, effOf E hp ay ev S1 y = .reads i off n → ∃ S', opRun E (callStep E enter) hp ay ev S y = some (vy, S') ∧ effOf E hp ay ev S y = effOf E hp ay ev S1 y ∧
      opRun E (callStep E enter) hp ax ev S' x = some (vx, S2) ∧ effOf E hp ax ev S' x = effOf E hp ax ev S x := by
    intro i off n he
    obtain ⟨q, hq⟩ := reads_const (cf := callStep E enter) he
    rw [(hq S1).2] at hy
    obtain ⟨h1, rfl⟩ := withS_spec hy
    rw [he] at ha
    have hs := stable hx hB (.inr ha)
    exact ⟨S, by rw [(hq S).2, ← hs, h1]; rfl, by rw [(hq S).1, he], hx, rfl⟩
  cases hex : effOf E hp ax ev S x with
  | none => exact absurd hex hxn
  | all => rw [hex, (apart_all hyn).1] at ha; cases ha
  | reads i off n => rw [← hex]; exact left i off n hex rfl
  | looks =>
    cases hey : effOf E hp ay ev S1 y with
    | none => exact absurd hey hyn
    | reads i off n => rw [← hex, ← hey]; exact right i off n hey
    | looks =>
      have e1 := looks_same hex hx
      subst e1
      have e2 := looks_same hey hy
      subst e2
      exact ⟨_, hy, hey, hx, hex⟩
    | _ => rw [hex, hey] at ha; simp [apart] at ha
  | writes j b m =>
    cases hey : effOf E hp ay ev S1 y with
    | none => exact absurd hey hyn
    | reads i off n => rw [← hex, ← hey]; exact right i off n hey
    | _ => rw [hex, hey] at ha; simp [apart] at ha
  | makes k =>
    cases hey : effOf E hp ay ev S1 y with
    | none => exact absurd hey hyn
    | reads i off n => rw [← hex, ← hey]; exact right i off n hey
    | _ => rw [hex, hey] at ha; simp [apart] at ha
  | touches raw R =>
    cases hey : effOf E hp ay ev S1 y with
    | none => exact absurd hey hyn
    | reads i off n => rw [← hex, ← hey]; exact right i off n hey
    | makes k =>
      cases raw with
      | false => rw [hex, hey] at ha; simp [apart] at ha
      | true =>
        rw [hex, hey] at ha
        simp only [apart, Bool.and_eq_true, Nat.blt_eq] at ha
        obtain ⟨hk, hR⟩ := ha
        have hk' : k < S.bx.length := by omega
        obtain ⟨b, rfl, hh, rfl, hc⟩ := makes_const hey hy
        rw [(touches_keeps hex hx).2 k hk' hR] at hh
        obtain ⟨c1, c2⟩ := hc S hh
        obtain ⟨t1, t2⟩ := touches_raw (b := b) hex hx hk' hR
        exact ⟨_, c2, c1, t2, t1⟩
    | _ => rw [hex, hey] at ha; simp [apart] at ha

theorem act_swap {B : Nat} {x y : Oper} {ax ay : Option Nat} {r : Regs} {D D1 D2 : Dl} {S S1 S2 : St} {vx vy : PV}
    (hx : opAct E (callStep E enter) hp ops ax x r D S = some (vx, D1, S1)) (hy : opAct E (callStep E enter) hp ops ay y r D1 S1 = some (vy, D2, S2))
    (hB : effA E hp ops ay y r S1 ≠ .none → B ≤ S.bx.length) (ha : apart B (effA E hp ops ax x r S) (effA E hp ops ay y r S1) = true) :
    ∃ D' S', opAct E (callStep E enter) hp ops ay y r D S = some (vy, D', S') ∧ effA E hp ops ay y r S = effA E hp ops ay y r S1 ∧
      opAct E (callStep E enter) hp ops ax x r D' S' = some (vx, D2, S2) ∧ effA E hp ops ax x r S' = effA E hp ops ax x r S := by
  by_cases hxn : effA E hp ops ax x r S = .none
  · obtain ⟨rfl, rfl, hc⟩ := act_none hxn hx
    exact ⟨D2, S2, hy, rfl, (hc S2 D2).2, by rw [(hc S2 D2).1, hxn]⟩
  by_cases hyn : effA E hp ops ay y r S1 = .none
  · obtain ⟨rfl, rfl, hc⟩ := act_none hyn hy
    exact ⟨D, S, (hc S D).2, by rw [(hc S D).1, hyn], hx, rfl⟩
  have hxa : effA E hp ops ax x r S ≠ .all := fun e => by rw [e, (apart_all hyn).1] at ha; cases ha
  have hya : effA E hp ops ay y r S1 ≠ .all := fun e => by rw [e, (apart_all hxn).2] at ha; cases ha
  have hB0 := hB hyn
  have hB1 := act_len hxa hx hB0
  obtain ⟨rfl, hx1⟩ := act_run hxa hx
  obtain ⟨rfl, hy1⟩ := act_run hya hy
  rcases hx1 with ⟨gx, ex, rx, kx⟩ | ⟨gx, _, _⟩
  · rcases hy1 with ⟨gy, ey, ry, ky⟩ | ⟨gy, _, _⟩
    · rw [ex] at hxn
      rw [ey] at hyn
      rw [ex, ey] at ha
      obtain ⟨S', q1, q2, q3, q4⟩ := run_swap rx ry hB0 hB1 hxn hyn ha
      refine ⟨_, S', ky _ _ _ _ q1, ?_, kx _ _ _ _ q3, ?_⟩
      · rw [ey, ← q2]; unfold effA; rw [gy]; rfl
      · rw [ex, ← q4]; unfold effA; rw [gx]; rfl
    · exact absurd (by unfold effA; rw [gy]; rfl) hyn
  · exact absurd (by unfold effA; rw [gx]; rfl) hxn

end

/-- Frames in which the registers read the same. -/
structure FEq (F G : Fr) : Prop where
  n : F.n = G.n
  S : F.S = G.S
  d : F.defers = G.defers
  r : ∀ t, getR t F.regs = getR t G.regs

theorem FEq.refl (F : Fr) : FEq F F := ⟨rfl, rfl, rfl, fun _ => rfl⟩
theorem FEq.trans {F G H : Fr} (h : FEq F G) (h' : FEq G H) : FEq F H := ⟨h.n.trans h'.n, h.S.trans h'.S, h.d.trans h'.d, fun t => (h.r t).trans (h'.r t)⟩
theorem FEq.symm {F G : Fr} (h : FEq F G) : FEq G F := ⟨h.n.symm, h.S.symm, h.d.symm, fun t => (h.r t).symm⟩

/-- What is put into a register. -/
theorem putR_spec {n : Nat} {r r' : Regs} {d : Option Nat} {v : PV} (h : putR n r d v = some r') :
    (∀ t, d = some t → t < n ∧ t < 4000) ∧ ∀ t, getR t r' = if d = some t then v else getR t r := by
  cases d with
  | none => simp [putR] at h; subst h; exact ⟨fun t h => (by cases h), fun t => (by simp)⟩
  | some u =>
    simp only [putR, cond_eq_ite, Bool.and_eq_true, Nat.blt_eq] at h
    split at h
    · rename_i hlt
      simp at h; subst h
      refine ⟨fun t h => (by cases h; exact hlt), fun t => ?_⟩
      simp only [getR_setR hlt.2, Option.some.injEq]
      by_cases e : t = u
      · subst e; simp
      · rw [if_neg e, if_neg (fun h => e h.symm)]
    · cases h

theorem putR_some {n : Nat} (r : Regs) {d : Option Nat} (v : PV) (h : ∀ t, d = some t → t < n ∧ t < 4000) : ∃ r', putR n r d v = some r' := by
  cases d with
  | none => exact ⟨r, rfl⟩
  | some u =>
    have := h u rfl
    exact ⟨setR u v r, by simp [putR, cond_eq_ite, this.1, this.2]⟩

theorem putF_spec {F F' : Fr} {d : Option Nat} {v : PV} {D : Dl} {S : St} (h : putF F d v D S = some F') : F'.n = F.n ∧ F'.S = S ∧ F'.defers = D ∧ putR F.n F.regs d v = some F'.regs := by
  unfold putF at h
  split at h
  · rename_i r hr
    simp at h; subst h
    exact ⟨rfl, rfl, rfl, hr⟩
  · cases h

theorem putF_some {F : Fr} {d : Option Nat} (v : PV) (D : Dl) (S : St) (h : ∀ t, d = some t → t < F.n ∧ t < 4000) : ∃ F', putF F d v D S = some F' := by
  obtain ⟨r, hr⟩ := putR_some F.regs v h
  exact ⟨⟨F.n, r, D, S⟩, by unfold putF; rw [hr]⟩

section
variable {E : Env} {enter : CallF} {hp : Bool} {ops : Array Oper}

theorem effAt_A (at_ : Option Nat) (o : Oper) (F : Fr) : effAt E hp ops at_ o F = effA E hp ops at_ o F.regs F.S := rfl

theorem operRun_inv {cf : CallF} {at_ : Option Nat} {o : Oper} {F F' : Fr} (h : operRun E cf hp ops at_ o F = some F') :
    ∃ v D S, opAct E cf hp ops at_ o F.regs F.defers F.S = some (v, D, S) ∧ putF F o.dst v D S = some F' := by
  rw [operRun_act] at h
  split at h
  · rename_i v D S he; exact ⟨v, D, S, he, h⟩
  · cases h

theorem operRun_of {cf : CallF} {at_ : Option Nat} {o : Oper} {F F' : Fr} {v : PV} {D : Dl} {S : St} (h : opAct E cf hp ops at_ o F.regs F.defers F.S = some (v, D, S)) (hp' : putF F o.dst v D S = some F') :
    operRun E cf hp ops at_ o F = some F' := by
  rw [operRun_act, h]; exact hp'

/-- Two operations change places. -/
theorem oper_swap {B : Nat} {x y : Oper} {ax ay : Option Nat} {F F1 F2 : Fr} (hap : x.apart ops y = true)
    (hx : operRun E (callStep E enter) hp ops ax x F = some F1) (hy : operRun E (callStep E enter) hp ops ay y F1 = some F2)
    (hB : effAt E hp ops ay y F1 ≠ .none → B ≤ F.S.bx.length) (ha : apart B (effAt E hp ops ax x F) (effAt E hp ops ay y F1) = true) :
    ∃ G1 G2, operRun E (callStep E enter) hp ops ay y F = some G1 ∧ effAt E hp ops ay y F = effAt E hp ops ay y F1 ∧
      operRun E (callStep E enter) hp ops ax x G1 = some G2 ∧ effAt E hp ops ax x G1 = effAt E hp ops ax x F ∧ FEq G2 F2 := by
  obtain ⟨h1, h2, h3⟩ := Oper.apart_spec hap
  simp only [effAt_A] at *
  obtain ⟨vx, D1, S1, qx, px⟩ := operRun_inv hx
  obtain ⟨vy, D2, S2, qy, py⟩ := operRun_inv hy
  obtain ⟨n1, s1, d1, r1⟩ := putF_spec px
  obtain ⟨n2, s2, d2, r2⟩ := putF_spec py
  obtain ⟨l1, g1⟩ := putR_spec r1
  obtain ⟨l2, g2⟩ := putR_spec r2
  have agy : Agree ops y F1.regs F.regs := fun t ht => by rw [g1, if_neg (fun e => h1 t e ht)]
  rw [opAct_congr agy, d1, s1] at qy
  rw [effA_congr agy, s1] at hB ha ⊢
  obtain ⟨D', S', k1, k2, k3, k4⟩ := act_swap qx qy hB ha
  obtain ⟨G1, hG1⟩ := putF_some (F := F) (d := y.dst) vy D' S' (fun t e => by rw [← n1]; exact l2 t e)
  obtain ⟨m1, m2, m3, m4⟩ := putF_spec hG1
  obtain ⟨_, g3⟩ := putR_spec m4
  have agx : Agree ops x G1.regs F.regs := fun t ht => by rw [g3, if_neg (fun e => h3 t e ht)]
  obtain ⟨G2, hG2⟩ := putF_some (F := G1) (d := x.dst) vx D2 S2 (fun t e => by rw [m1]; exact l1 t e)
  obtain ⟨o1, o2, o3, o4⟩ := putF_spec hG2
  obtain ⟨_, g4⟩ := putR_spec o4
  refine ⟨G1, G2, operRun_of k1 hG1, k2, operRun_of (by rw [opAct_congr agx, m3, m2]; exact k3) hG2, ?_, ?_⟩
  · rw [effA_congr agx, m2]; exact k4
  · refine ⟨?_, ?_, ?_, fun t => ?_⟩
    · rw [o1, m1, n2, n1]
    · rw [o2, s2]
    · rw [o3, d2]
    · rw [g4, g2, g3, g1]
      by_cases e1 : x.dst = some t
      · have : y.dst ≠ some t := fun e => h2 t e1 e
        simp [e1, this]
      · simp [e1]

theorem oper_feq {cf : CallF} {at_ : Option Nat} {o : Oper} {F F' G : Fr} (h : operRun E cf hp ops at_ o F = some F') (e : FEq F G) :
    ∃ G', operRun E cf hp ops at_ o G = some G' ∧ FEq F' G' ∧ effAt E hp ops at_ o G = effAt E hp ops at_ o F := by
  obtain ⟨v, D, S, q, p⟩ := operRun_inv h
  obtain ⟨n1, s1, d1, r1⟩ := putF_spec p
  obtain ⟨l1, g1⟩ := putR_spec r1
  have ag : Agree ops o G.regs F.regs := fun t _ => (e.r t).symm
  obtain ⟨G', hG'⟩ := putF_some (F := G) (d := o.dst) v D S (fun t h => by rw [← e.n]; exact l1 t h)
  obtain ⟨m1, m2, m3, m4⟩ := putF_spec hG'
  obtain ⟨_, g3⟩ := putR_spec m4
  refine ⟨G', operRun_of (by rw [opAct_congr ag, ← e.d, ← e.S]; exact q) hG', ⟨?_, ?_, ?_, fun t => ?_⟩, ?_⟩
  · rw [n1, m1, e.n]
  · rw [s1, m2]
  · rw [d1, m3]
  · rw [g1, g3, e.r]
  · rw [effAt_A, effAt_A, effA_congr ag, e.S]

theorem opsDraw_feq {cf : CallF} : ∀ {l : List (Option Nat × Oper)} {F F' G : Fr} {es : List Eff}, opsDraw E cf hp ops l F = some (F', es) → FEq F G → ∃ G', opsDraw E cf hp ops l G = some (G', es) ∧ FEq F' G'
  | [], F, F', G, es, h, e => by
    simp [opsDraw] at h
    obtain ⟨rfl, rfl⟩ := h
    exact ⟨G, rfl, e⟩
  | (at_, o) :: l, F, F', G, es, h, e => by
    unfold opsDraw at h ⊢
    split at h
    · rename_i F1 h1
      split at h
      · rename_i F2 es2 h2
        simp at h
        obtain ⟨rfl, rfl⟩ := h
        obtain ⟨G1, q1, e1, f1⟩ := oper_feq h1 e
        obtain ⟨G2, q2, e2⟩ := opsDraw_feq h2 e1
        exact ⟨G2, by rw [q1]; dsimp only; rw [q2, f1], e2⟩
      · cases h
    · cases h

theorem opsDraw_cons {cf : CallF} {at_ : Option Nat} {o : Oper} {l : List (Option Nat × Oper)} {F F' : Fr} {es : List Eff} (h : opsDraw E cf hp ops ((at_, o) :: l) F = some (F', es)) :
    ∃ F1 es1, operRun E cf hp ops at_ o F = some F1 ∧ opsDraw E cf hp ops l F1 = some (F', es1) ∧ es = effAt E hp ops at_ o F :: es1 := by
  unfold opsDraw at h
  split at h
  · rename_i F1 h1
    split at h
    · rename_i F2 es2 h2
      simp at h
      obtain ⟨rfl, rfl⟩ := h
      exact ⟨F1, es2, h1, h2, rfl⟩
    · cases h
  · cases h

theorem opsDraw_mk {cf : CallF} {at_ : Option Nat} {o : Oper} {l : List (Option Nat × Oper)} {F F1 F' : Fr} {es : List Eff} (h1 : operRun E cf hp ops at_ o F = some F1) (h2 : opsDraw E cf hp ops l F1 = some (F', es)) :
    opsDraw E cf hp ops ((at_, o) :: l) F = some (F', effAt E hp ops at_ o F :: es) := by
  unfold opsDraw
  rw [h1]; dsimp only; rw [h2]

/-- An operation that is apart from all ahead of it may be done first. -/
theorem front {B : Nat} {ay : Option Nat} {y : Oper} {l2 : List (Option Nat × Oper)} {F' : Fr} : ∀ {l1 : List (Option Nat × Oper)} {F : Fr} {es : List Eff}, opsDraw E (callStep E enter) hp ops (l1 ++ (ay, y) :: l2) F = some (F', es) →
    (∀ p ∈ l1, p.2.apart ops y = true) → (∀ es1 e es2, es = es1 ++ e :: es2 → es1.length = l1.length → (∀ x ∈ es1, apart B x e = true) ∧ (e ≠ .none → B ≤ F.S.bx.length)) →
    ∃ F1 F'' es1 es2, operRun E (callStep E enter) hp ops ay y F = some F1 ∧ opsDraw E (callStep E enter) hp ops (l1 ++ l2) F1 = some (F'', es1 ++ es2) ∧ FEq F'' F' ∧ es = es1 ++ effAt E hp ops ay y F :: es2 ∧ es1.length = l1.length
  | [], F, es, h, _, _ => by
    obtain ⟨F1, es1, q1, q2, q3⟩ := opsDraw_cons h
    exact ⟨F1, F', [], es1, q1, q2, FEq.refl _, q3, rfl⟩
  | (ax, x) :: l1, F, es, h, hap, hes => by
    obtain ⟨F1, es1, q1, q2, rfl⟩ := opsDraw_cons h
    have hlen : ∀ {a b : List Eff} {e : Eff}, es1 = a ++ e :: b → a.length = l1.length → (∀ x ∈ a, apart B x e = true) ∧ apart B (effAt E hp ops ax x F) e = true ∧ (e ≠ .none → B ≤ F.S.bx.length) := by
      intro a b e he hl
      have := hes (effAt E hp ops ax x F :: a) e b (by rw [he]; rfl) (by simp [hl])
      exact ⟨fun z hz => this.1 z (by simp [hz]), this.1 _ (by simp), this.2⟩
    obtain ⟨G, G', a, b, r1, r2, r3, r4, r5⟩ := front (l1 := l1) q2 (fun p hp => hap p (by simp [hp])) (fun a e b he hl => ⟨(hlen he hl).1, fun hn => by
      have hB := (hlen he hl).2.2 hn
      have hxa : effAt E hp ops ax x F ≠ .all := fun e0 => by
        have := (hlen he hl).2.1
        rw [e0, (apart_all hn).1] at this; cases this
      obtain ⟨v, D, S, q, p⟩ := operRun_inv q1
      rw [(putF_spec p).2.1]
      exact act_len hxa q hB⟩)
    have hh := hlen r4 r5
    obtain ⟨G1, G2, s1, s2, s3, s4, s5⟩ := oper_swap (B := B) (hap (ax, x) (by simp)) q1 r1 hh.2.2 hh.2.1
    obtain ⟨G3, t1, t2⟩ := opsDraw_feq r2 s5.symm
    refine ⟨G1, G3, effAt E hp ops ax x F :: a, b, s1, ?_, t2.symm.trans r3, by rw [s2, r4]; rfl, by simp [r5]⟩
    have := opsDraw_mk s3 t1
    rw [s4] at this
    exact this

end
end Go.Am

/- Drawn regions: whatever order is drawn, the same comes. No condition. -/
namespace Go.Am

section
variable {ops : Array Oper}

/-- What the masks tell. -/
theorem before_bit : ∀ i j, ((Region.before ops).getD i 0).testBit j = true → ∃ o, ops[i]? = some o ∧ ∃ e ∈ o.after, Region.binds .any e = true ∧ (e.on = j ∨ (e.on < i ∧ ((Region.before ops).getD e.on 0).testBit j = true)) := by
  have fold : ∀ (acc : Array Nat) (l : List Edge) (s j : Nat), (l.foldl (fun s e => if Region.binds .any e then s ||| 2 ^ e.on ||| acc.getD e.on 0 else s) s).testBit j = true →
      s.testBit j = true ∨ ∃ e ∈ l, Region.binds .any e = true ∧ (e.on = j ∨ (acc.getD e.on 0).testBit j = true) := by
    intro acc l
    induction l with
    | nil => intro s j h; exact .inl h
    | cons e l ih =>
      intro s j h
      rw [List.foldl_cons] at h
      rcases ih _ j h with h | ⟨e', he', h'⟩
      · split at h
        · rename_i hb
          simp only [Nat.testBit_or, Nat.testBit_two_pow, Bool.or_eq_true, decide_eq_true_eq] at h
          rcases h with (h | h) | h
          · exact .inl h
          · exact .inr ⟨e, by simp, hb, .inl h⟩
          · exact .inr ⟨e, by simp, hb, .inr h⟩
        · exact .inl h
      · exact .inr ⟨e', by simp [he'], h'⟩
  have key : (Region.before ops).size = ops.size ∧ ∀ i j, ((Region.before ops).getD i 0).testBit j = true → ∃ o, ops[i]? = some o ∧ ∃ e ∈ o.after, Region.binds .any e = true ∧ (e.on = j ∨ (e.on < i ∧ ((Region.before ops).getD e.on 0).testBit j = true)) := by
    unfold Region.before
    refine Array.foldl_induction (as := ops) (fun k (acc : Array Nat) => acc.size = k ∧ ∀ i j, (acc.getD i 0).testBit j = true → ∃ o, ops[i]? = some o ∧ ∃ e ∈ o.after, Region.binds .any e = true ∧ (e.on = j ∨ (e.on < i ∧ (acc.getD e.on 0).testBit j = true))) ⟨rfl, fun i j h => by simp at h⟩ ?_
    rintro ⟨k, hk⟩ acc ⟨hs, ih⟩
    refine ⟨by simp [hs], fun i j h => ?_⟩
    have lt : ∀ i j, (acc.getD i 0).testBit j = true → i < acc.size := by
      intro i j h
      rcases Nat.lt_or_ge i acc.size with h' | h'
      · exact h'
      · simp [Array.getD_eq_getD_getElem?, h'] at h
    have old : ∀ (x : Nat) i, i < acc.size → (acc.push x).getD i 0 = acc.getD i 0 := by
      intro x i hi
      simp [Array.getD_eq_getD_getElem?, Array.getElem?_push, Nat.ne_of_lt hi]
    by_cases hi : i < acc.size
    · rw [old _ i hi] at h
      obtain ⟨o, ho, e, he, hb, h1⟩ := ih i j h
      refine ⟨o, ho, e, he, hb, ?_⟩
      rcases h1 with h1 | ⟨h1, h2⟩
      · exact .inl h1
      · exact .inr ⟨h1, by rw [old _ _ (by omega)]; exact h2⟩
    · have hi2 : i = acc.size := by
        rcases Nat.lt_or_ge i (acc.size + 1) with h' | h'
        · omega
        · rw [Array.getD_eq_getD_getElem?, Array.getElem?_eq_none (by simp; omega)] at h
          simp at h
      subst hi2
      simp only [Array.getD_eq_getD_getElem?, Array.getElem?_push_size, Option.getD_some] at h
      have hk2 : acc.size < ops.size := by rw [hs]; exact hk
      rw [← Array.foldl_toList] at h
      have h' := fold acc _ 0 j (by simpa only [Array.getD_eq_getD_getElem?] using h)
      rcases h' with h' | ⟨e, he, hb, h1⟩
      · simp at h'
      · refine ⟨ops[k], by simp [hs, hk], e, by simpa using he, hb, ?_⟩
        rcases h1 with h1 | h1
        · exact .inl h1
        · exact .inr ⟨lt _ _ h1, by rw [old _ _ (lt _ _ h1)]; exact h1⟩
  exact key.2

theorem saneOps_spec {before : Nat → Nat} : ∀ {l : List Oper} {k : Nat}, saneOps ops before k l = true →
    (∀ i o, l[i]? = some o → ∀ e ∈ o.after, Region.binds .any e = true → e.on < k + i) ∧ ∀ i j x y, i < j → l[i]? = some x → l[j]? = some y → (before (k + j)).testBit (k + i) = true ∨ x.apart ops y = true
  | [], k, _ => ⟨fun i o h => by simp at h, fun i j x y _ h => by simp at h⟩
  | z :: l, k, h => by
    simp only [saneOps, Bool.and_eq_true] at h
    obtain ⟨h1, h2, h3⟩ := h
    obtain ⟨r1, r2⟩ := saneOps_spec h3
    have pr : ∀ (l : List Oper) (m : Nat), sanePairs ops before k z m l = true → ∀ j y, l[j]? = some y → (before (m + j)).testBit k = true ∨ z.apart ops y = true := by
      intro l
      induction l with
      | nil => intro m _ j y h; simp at h
      | cons x l ih =>
        intro m hm j y hy
        simp only [sanePairs, Bool.and_eq_true, Bool.or_eq_true] at hm
        cases j with
        | zero => simp at hy; subst hy; exact hm.1
        | succ j =>
          have := ih (m + 1) hm.2 j y (by simpa using hy)
          have e : m + 1 + j = m + (j + 1) := by omega
          rw [e] at this
          exact this
    refine ⟨fun i o ho e he hbi => ?_, fun i j x y hij hx hy => ?_⟩
    · cases i with
      | zero =>
        simp at ho; subst ho
        have := Array.all_eq_true_iff_forall_mem.1 h1 e he
        rw [hbi] at this
        simpa using this
      | succ i =>
        have := r1 i o (by simpa using ho) e he hbi
        omega
    · cases j with
      | zero => omega
      | succ j =>
        cases i with
        | zero =>
          simp at hx; subst hx
          have := pr l (k + 1) h2 j y (by simpa using hy)
          have e : k + 1 + j = k + (j + 1) := by omega
          rw [e] at this
          exact this
        | succ i =>
          have := r2 i j x y (by omega) (by simpa using hx) (by simpa using hy)
          have e : k + 1 + j = k + (j + 1) := by omega
          have e' : k + 1 + i = k + (i + 1) := by omega
          rw [e, e'] at this
          exact this

/-- What stands ahead of what is ready has been done. -/
theorem listed_before {listed : Array Bool} (hc : ∀ j o, listed.getD j false = true → ops[j]? = some o → ∀ e ∈ o.after, Region.binds .any e = true → listed.getD e.on false = true) :
    ∀ i j, (∀ o, ops[i]? = some o → ∀ e ∈ o.after, Region.binds .any e = true → listed.getD e.on false = true) → ((Region.before ops).getD i 0).testBit j = true → listed.getD j false = true := by
  intro i
  induction i using Nat.strongRecOn with
  | ind i ih =>
    intro j h hb
    obtain ⟨o, ho, e, he, hbi, h1⟩ := before_bit i j hb
    have hl := h o ho e he hbi
    rcases h1 with h1 | ⟨h1, h2⟩
    · rw [← h1]; exact hl
    · exact ih e.on h1 j (fun o' ho' => hc e.on o' hl ho') h2

def apartAt (B : Nat) (ops : Array Oper) (a b : Nat × Eff) : Prop := apart B a.2 b.2 = true ∨ ((Region.before ops).getD b.1 0).testBit a.1 = true

theorem ordered_spec {B : Nat} : ∀ {es : List Eff} {k : Nat}, ordered B (fun j => (Region.before ops).getD j 0) k es = true → ((List.range' k es.length).zip es).Pairwise (apartAt B ops)
  | [], k, _ => by simp
  | e :: es, k, h => by
    simp only [ordered, Bool.and_eq_true] at h
    have go : ∀ (l : List Eff) (m : Nat), ordered.go (fun j => (Region.before ops).getD j 0) B k e m l = true → ∀ b ∈ (List.range' m l.length).zip l, apartAt B ops (k, e) b := by
      intro l
      induction l with
      | nil => intro m _ b hb; simp at hb
      | cons x l ih =>
        intro m hm b hb
        simp only [ordered.go, Bool.and_eq_true, Bool.or_eq_true] at hm
        simp only [List.length_cons, List.range'_succ, List.zip_cons_cons, List.mem_cons] at hb
        rcases hb with rfl | hb
        · exact hm.1
        · exact ih (m + 1) hm.2 b hb
    simp only [List.length_cons, List.range'_succ, List.zip_cons_cons, List.pairwise_cons]
    exact ⟨go es (k + 1) h.1, ordered_spec h.2⟩

theorem places_spec {hp : Bool} : ∀ (l : List Oper) (nx : Nat), (places hp l nx).length = l.length ∧ ∀ (i : Nat) (p : Option Nat × Oper), (places hp l nx)[i]? = some p → l[i]? = some p.2 ∧ ∀ k, p.1 = some k → nx ≤ k
  | [], nx => ⟨rfl, fun i p h => by simp [places] at h⟩
  | o :: l, nx => by
    simp only [places, cond_eq_ite]
    split
    · obtain ⟨h1, h2⟩ := places_spec l (nx + 1) (hp := hp)
      refine ⟨by simp [h1], fun i p h => ?_⟩
      cases i with
      | zero => simp at h; subst h; exact ⟨by simp, fun k hk => by simp at hk; omega⟩
      | succ i =>
        obtain ⟨q1, q2⟩ := h2 i p (by simpa using h)
        exact ⟨by simpa using q1, fun k hk => by have := q2 k hk; omega⟩
    · obtain ⟨h1, h2⟩ := places_spec l nx (hp := hp)
      refine ⟨by simp [h1], fun i p h => ?_⟩
      cases i with
      | zero => simp at h; subst h; exact ⟨by simp, fun k hk => by simp at hk⟩
      | succ i =>
        obtain ⟨q1, q2⟩ := h2 i p (by simpa using h)
        exact ⟨by simpa using q1, q2⟩

end

theorem get_holes {n : Nat} {S : St} {i : Nat} {b : Box} (h : (holes n S).bx[i]? = some b) : S.bx[i]? = some b ∨ (S.bx.length ≤ i ∧ b = .hole) := by
  simp only [holes, List.getElem?_append, List.getElem?_replicate] at h
  split at h
  · exact .inl h
  · split at h
    · simp at h; exact .inr ⟨by omega, h.symm⟩
    · cases h

theorem holes_get {n : Nat} {S : St} {i : Nat} {b : Box} (h : S.bx[i]? = some b) : (holes n S).bx[i]? = some b := by
  have hlt : i < S.bx.length := by
    rcases Nat.lt_or_ge i S.bx.length with h' | h'
    · exact h'
    · simp [h'] at h
  simp only [holes]
  rw [List.getElem?_append_left hlt]; exact h

theorem ext_holes (C : Conf) (S : St) (n : Nat) : Ext C S C (holes n S) where
  sg := SgLe.refl _
  bx := fun i b h hh => ⟨b, holes_get h, hh, fun hl => ⟨hl, rfl, rfl⟩⟩
  fr := fun g hg => ⟨hg, fun len e h => ⟨len, h, Nat.le_refl _, fun _ => rfl⟩⟩
  len := by simp [holes]
  aw := fun i h => holes_get h
  ro := fun i l h => by
    rcases get_holes h with h | ⟨_, h⟩
    · exact h
    · cases h

theorem WRel.holes {C : Conf} {S : St} {w0 : Base} {N : Nat → Prop} {w : World} (h : WRel C S w0 N w) (n : Nat) : WRel C (holes n S) w0 N w := by
  have own : ∀ {i : Nat} {b : Box}, (Am.holes n S).bx[i]? = some b → b.own = true → S.bx[i]? = some b := by
    intro i b hb ho
    rcases get_holes hb with hb | ⟨_, rfl⟩
    · exact hb
    · cases ho
  have x := ext_holes C S n
  refine { sg := h.sg, cells := ?_, ro := ?_, iter := ?_, inj := ?_, sep := ?_, ids := ?_, idinj := h.idinj, size := h.size, keep := h.keep, ownN := ?_, idN := h.idN, known := h.known, hole := ?_, still := h.still }
  · intro i t l hb
    obtain ⟨vs, h1, h2, h3, h4⟩ := h.cells i t l (own hb rfl)
    exact ⟨vs, h1, h2, h3, h4.mono x⟩
  · intro i l hb
    obtain ⟨h0, vs, t, fz, h1, h2, h3, h4⟩ := h.ro i l (x.ro i l hb)
    exact ⟨h0, vs, t, fz, h1, h2, h3, h4.mono x⟩
  · intro i l pos hb
    exact h.iter i l pos (own hb rfl)
  · intro i j b b' hb hb' ho ho' e
    exact h.inj i j b b' (own hb ho) (own hb' ho') ho ho' e
  · intro i b hb ho
    exact h.sep i b (own hb ho) ho
  · intro g len e hg
    obtain ⟨b, m, cap, sz, cur, h1, h2, h3, h4, h5, h6, h7, h8⟩ := h.ids g len e hg
    exact ⟨b, m, cap, sz, cur, h1, h2, h3, h4, h5, h6, h7, fun i x hx ho => h8 i x (own hx ho) ho⟩
  · intro i b hb ho
    exact h.ownN i b (own hb ho) ho
  · intro i hi
    exact holes_get (h.hole i hi)

section
variable {P : Program} {E : Env} {enter : CallF} {hp : Bool} {ops : Array Oper} {w0 : Base} {N : Nat → Prop}

theorem FRel.feq {C : Conf} {F G : Fr} {a : Act} {w : World} (h : FRel E C w0 N F a w) (e : FEq F G) : FRel E C w0 N G a w where
  g := h.g
  w := e.S ▸ h.w
  r := ⟨by rw [← e.n]; exact h.r.1, fun t => by rw [← e.r, ← e.S]; exact h.r.2 t⟩
  d := by rw [← e.d, ← e.S]; exact h.d

theorem any_ok (hE : EOk P E) (hcf : CallOK P E (callStep E enter)) {B : Nat} {item : Nat → Option Nat × Oper} (hitem : ∀ i o, ops[i]? = some o → (item i).2 = o) (hat : ∀ i, i < ops.size → ∀ k, (item i).1 = some k → ¬ w0.hl k)
    (hs1 : ∀ (i : Nat) o, ops[i]? = some o → ∀ e ∈ o.after, Region.binds .any e = true → e.on < i) (hs2 : ∀ (i j : Nat) x y, i < j → ops[i]? = some x → ops[j]? = some y → ((Region.before ops).getD j 0).testBit i = true ∨ x.apart ops y = true)
    {Q : Exit → Act → World → Prop} : ∀ (fuel : Nat) (F' : Fr) (listed : Array Bool) (L : List Nat) (C : Conf) (F : Fr) (a : Act) (w : World) (es : List Eff),
    listed.size = ops.size → L.Pairwise (· < ·) → (∀ i, i ∈ L ↔ i < ops.size ∧ listed.getD i false = false) → L.length = fuel →
    (∀ j o, listed.getD j false = true → ops[j]? = some o → ∀ e ∈ o.after, Region.binds .any e = true → listed.getD e.on false = true) →
    FRel E C w0 N F a w → B ≤ F.S.bx.length → opsDraw E (callStep E enter) hp ops (L.map item) F = some (F', es) → (L.zip es).Pairwise (apartAt B ops) →
    (∀ C' a' w', Ext C F.S C' F'.S → FRel E C' w0 N F' a' w' → F'.n = F.n → Q .normal a' w') → wpAny P .any ops Q fuel listed a w := by
  intro fuel
  induction fuel with
  | zero =>
    intro F' listed L C F a w es hls hsort hL hlen hcl hF hB hd hpw hQ
    have hnil : L = [] := List.eq_nil_of_length_eq_zero hlen
    subst hnil
    simp [opsDraw] at hd
    obtain ⟨rfl, rfl⟩ := hd
    refine ⟨?_, hQ C a w (Ext.refl _ _) hF rfl⟩
    rw [List.eq_nil_iff_forall_not_mem]
    intro j hj
    obtain ⟨h1, o, ho, _⟩ := mem_ready.1 hj
    have hjl : j < ops.size := (Array.getElem?_eq_some_iff.1 ho).1
    have : j ∈ ([] : List Nat) := (hL j).2 ⟨hjl, by
      rw [Array.getD_eq_getD_getElem?] at h1 ⊢
      have : j < listed.size := by omega
      simpa [this] using h1⟩
    cases this
  | succ fuel ih =>
    intro F' listed L C F a w es hls hsort hL hlen hcl hF hB hd hpw hQ
    have gd : ∀ j, j < ops.size → listed.getD j true = listed.getD j false := by
      intro j hj
      have : j < listed.size := by omega
      simp [Array.getD_eq_getD_getElem?, this]
    refine ⟨fun hnil => ?_, fun i hi => ?_⟩
    · exfalso
      cases hL0 : L with
      | nil => rw [hL0] at hlen; cases hlen
      | cons i0 L0 =>
        rw [hL0] at hsort hL
        obtain ⟨hlt, hun⟩ := (hL i0).1 (by simp)
        have : i0 ∈ Region.ready .any ops listed := by
          refine mem_ready.2 ⟨by rw [gd i0 hlt]; exact hun, ops[i0], by simp [hlt], fun e he hb => ?_⟩
          have he1 := hs1 i0 ops[i0] (by simp [hlt]) e he hb
          cases hh : listed.getD e.on false with
          | true => rfl
          | false =>
            have := (hL e.on).2 ⟨by omega, hh⟩
            simp only [List.mem_cons] at this
            rcases this with h | h
            · omega
            · have := (List.pairwise_cons.1 hsort).1 _ h
              omega
        rw [hnil] at this
        cases this
    · obtain ⟨h1, o, ho, hall⟩ := mem_ready.1 hi
      have hil : i < ops.size := (Array.getElem?_eq_some_iff.1 ho).1
      rw [gd i hil] at h1
      have hmem := (hL i).2 ⟨hil, h1⟩
      obtain ⟨L1, L2, rfl⟩ := List.append_of_mem hmem
      have hnb : ∀ j ∈ L1, ((Region.before ops).getD i 0).testBit j = false := by
        intro j hj
        cases hb : ((Region.before ops).getD i 0).testBit j with
        | false => rfl
        | true =>
          have := listed_before hcl i j (fun o' ho' => by rw [ho] at ho'; cases ho'; exact hall) hb
          have h2 := ((hL j).1 (by simp [hj])).2
          rw [this] at h2; cases h2
      have hlt : ∀ j ∈ L1, j < i := fun j hj => (List.pairwise_append.1 hsort).2.2 j hj i (by simp)
      have hgt : ∀ j ∈ L2, i < j := fun j hj => (List.pairwise_cons.1 (List.pairwise_append.1 hsort).2.1).1 j hj
      have hio : item i = ((item i).1, o) := by rw [← hitem i o ho]
      rw [List.map_append, List.map_cons, hio] at hd
      have hsplit : ∀ es1 e es2, es = es1 ++ e :: es2 → es1.length = L1.length → (L1 ++ i :: L2).zip es = L1.zip es1 ++ (i, e) :: L2.zip es2 := by
        intro es1 e es2 he hl
        rw [he, List.zip_append hl.symm, List.zip_cons_cons]
      obtain ⟨F1, F'', es1, es2, r1, r2, r3, r4, r5⟩ := front (B := B) hd (fun p hp' => by
          obtain ⟨j, hj, rfl⟩ := List.mem_map.1 hp'
          have hjl : j < ops.size := ((hL j).1 (by simp [hj])).1
          rw [hitem j ops[j] (by simp [hjl])]
          rcases hs2 j i ops[j] o (hlt j hj) (by simp [hjl]) ho with h | h
          · rw [hnb j hj] at h; cases h
          · exact h)
        (fun es1 e es2 he hl => ⟨fun x hx => by
            rw [hsplit es1 e es2 he (by simpa using hl)] at hpw
            obtain ⟨k, hk, rfl⟩ := List.getElem_of_mem hx
            have hk' : k < L1.length := by simpa [hl] using hk
            have hm : (L1[k], es1[k]) ∈ L1.zip es1 := by
              rw [List.mem_iff_getElem]
              exact ⟨k, by rw [List.length_zip]; omega, by simp⟩
            have := (List.pairwise_append.1 hpw).2.2 _ hm (i, e) (by simp)
            rcases this with h | h
            · exact h
            · exact absurd h (by rw [hnb L1[k] (List.getElem_mem hk')]; exact fun h => by cases h), fun _ => hB⟩)
      have hl1 : es1.length = L1.length := by simpa using r5
      rw [hsplit _ _ _ r4 hl1] at hpw
      unfold wpOp
      simp only [ho]
      have step := oper_ok hE hcf (hat i hil) hF r1 (wpAny P .any ops Q fuel (listed.setIfInBounds i true)) Q fun C1 a1 w1 x1 f1 n1 => by
        have hset : ∀ j, (listed.setIfInBounds i true).getD j false = if j = i then true else listed.getD j false := by
          intro j
          by_cases e : j = i
          · subst e
            have : j < listed.size := by omega
            simp [Array.getD_eq_getD_getElem?, this]
          · rw [if_neg e, Array.getD_eq_getD_getElem?, Array.getElem?_setIfInBounds_ne (fun h => e h.symm), ← Array.getD_eq_getD_getElem?]
        refine ih F'' (listed.setIfInBounds i true) (L1 ++ L2) C1 F1 a1 w1 (es1 ++ es2) (by simp [hls]) (hsort.sublist (by simp)) (fun j => ?_) (by simp at hlen ⊢; omega) ?_ f1 (Nat.le_trans hB x1.len)
          (by rw [List.map_append]; exact r2) ?_ ?_
        · rw [hset]
          constructor
          · intro hj
            have hj' : j ∈ L1 ++ i :: L2 := by
              rcases List.mem_append.1 hj with h | h <;> simp [h]
            have hne : j ≠ i := by
              rintro rfl
              rcases List.mem_append.1 hj with h | h
              · exact Nat.lt_irrefl _ (hlt j h)
              · exact Nat.lt_irrefl _ (hgt j h)
            rw [if_neg hne]
            exact (hL j).1 hj'
          · rintro ⟨q1, q2⟩
            split at q2
            · cases q2
            · rename_i hne
              have := (hL j).2 ⟨q1, q2⟩
              simp only [List.mem_append, List.mem_cons] at this ⊢
              rcases this with h | h | h
              · exact .inl h
              · exact absurd h hne
              · exact .inr h
        · intro j oj hj hoj e he hb
          rw [hset] at hj ⊢
          split
          · rfl
          · split at hj
            · rename_i hji
              subst hji
              rw [ho] at hoj; cases hoj
              exact hall e he hb
            · exact hcl j oj hj hoj e he hb
        · rw [List.zip_append hl1.symm]
          exact hpw.sublist (by simp)
        · intro C2 a2 w2 x2 f2 n2
          refine hQ C2 a2 w2 ?_ (f2.feq r3) (by rw [← r3.n, n2, n1])
          rw [← r3.S]
          exact x1.trans x2
      split
      · rename_i hw
        rw [if_pos hw] at step
        exact .inl step
      · rename_i hw
        rw [if_neg hw] at step
        exact step

theorem draw_ok (hE : EOk P E) (hcf : CallOK P E (callStep E enter)) : DrawOK P E (callStep E enter) hp := by
  intro ops F F' id hsane hr C w0 N w a Q hF hQ
  unfold regionRun at hr
  simp only [cond_true] at hr
  split at hr
  rotate_left
  · cases hr
  rename_i F2 es hd
  simp only [cond_eq_ite] at hr
  split at hr
  rotate_left
  · cases hr
  rename_i hord
  simp at hr; subst hr
  obtain ⟨hs1, hs2⟩ := saneOps_spec hsane
  obtain ⟨p1, p2⟩ := places_spec (hp := hp) ops.toList F.S.bx.length
  generalize hn : countAllocs hp ops.toList = n at hd hord
  generalize hpl : places hp ops.toList F.S.bx.length = pl at hd p1 p2
  have hF1 : FRel E C w0 N ⟨F.n, F.regs, F.defers, holes n F.S⟩ a { w with drawn := w.drawn + 1 } :=
    ⟨hF.g, (hF.w.same (w' := { w with drawn := w.drawn + 1 }) (Nat.le_refl _) fun _ _ => rfl).holes n, hF.r.mono (ext_holes _ _ _), hF.d.mono (ext_holes _ _ _)⟩
  have hl : pl.length = ops.size := by rw [p1]; simp
  have hrange : (List.range ops.size).map (fun i => pl.getD i (none, default)) = pl := by
    apply List.ext_getElem
    · simp [hl]
    · intro i h1 h2
      simp [List.getD, h2]
  have hes : es.length = ops.size := by
    have : ∀ (l : List (Option Nat × Oper)) (F F' : Fr) (es : List Eff), opsDraw E (callStep E enter) hp ops l F = some (F', es) → es.length = l.length := by
      intro l
      induction l with
      | nil => intro F F' es h; simp [opsDraw] at h; rw [h.2]; rfl
      | cons x l ih =>
        intro F F' es h
        obtain ⟨at_, o⟩ := x
        obtain ⟨F1, es1, _, h2, rfl⟩ := opsDraw_cons h
        simp [ih _ _ _ h2]
    rw [this _ _ _ _ hd, hl]
  refine wp_region_any hE.mixed ?_
  refine any_ok hE hcf (B := F.S.bx.length + n) (item := fun i => pl.getD i (none, default)) ?_ ?_ (fun i o ho e he hb => by simpa using hs1 i o (by simpa using ho) e he hb)
    (fun i j x y hij hx hy => by simpa using hs2 i j x y hij (by simpa using hx) (by simpa using hy)) ops.size F2 _ (List.range ops.size) C ⟨F.n, F.regs, F.defers, holes n F.S⟩ a _ es (by simp) List.pairwise_lt_range
    (fun i => by
      simp only [List.mem_range, Array.getD_eq_getD_getElem?, Array.getElem?_replicate]
      constructor
      · intro h; simp [h]
      · exact fun h => h.1) (by simp) (fun j o hj => by
        simp only [Array.getD_eq_getD_getElem?, Array.getElem?_replicate] at hj
        split at hj <;> simp at hj) hF1 (by simp [holes]) (by rw [hrange]; exact hd) ?_ ?_
  · intro i o ho
    have hi : i < ops.size := (Array.getElem?_eq_some_iff.1 ho).1
    have hi2 : i < pl.length := by omega
    have := (p2 i pl[i] (by simp [hi2])).1
    simp only [List.getD, hi2, getElem?_pos, Option.getD_some]
    rw [Array.getElem?_toList, ho] at this
    exact (Option.some.inj this).symm
  · intro i hi k hk hl0
    have hi2 : i < pl.length := by omega
    simp only [List.getD, hi2, getElem?_pos, Option.getD_some] at hk
    have := (p2 i pl[i] (by simp [hi2])).2 k hk
    have h3 := hF.w.hole k hl0
    have : ¬ k < F.S.bx.length := by omega
    simp [this] at h3
  · have := ordered_spec hord
    rw [hes] at this
    rw [List.range_eq_range']
    exact this
  · intro C' a' w' x f hn'
    exact hQ C' a' w' ((ext_holes C F.S n).trans x) f hn'

end
end Go.Am
