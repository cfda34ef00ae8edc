/- The machine without fuel: its runs are sound, and they solve the machine's own equations. No condition. -/
import Derived.Test.YtbjfngebahogpaaGreatDoorAmD
import Derived.Laws.Externs
import Derived.Lib.Bytealg
namespace Go.Am

theorem callStep_none (E : Env) : callStep E (fun _ _ _ => none) = fun _ _ _ => none := by
  funext f args S
  unfold callStep
  cases E.raw f
  · simp only [cond_false]
    cases mapO clean args with
    | some a => rfl
    | none =>
      dsimp only
      cases E.ro f
      · simp only [cond_false]; cases fitted (reach S.bx 1024 (args.flatMap (refs 4)) []) S.bx args <;> rfl
      · rfl
  · simp only [cond_true]; cases fitted (reach S.bx 1024 (args.flatMap (refs 4)) []) S.bx args <;> rfl

theorem runs_zero_call (E : Env) : (runs E 0).call = callStep E (fun _ _ _ => none) := (callStep_none E).symm

theorem runs_succ_call (E : Env) (n : Nat) : (runs E (n + 1)).call = callStep E (enterStep E (runs E n).code) := rfl
theorem runs_succ_code (E : Env) (n : Nat) (hp : Bool) : (runs E (n + 1)).code hp = execStep E (runs E n).call hp ((runs E n).code hp) := rfl

/-- Whatever the machine comes to, the program comes to. -/
theorem runs_ok {P : Program} {E : Env} (hE : EOk P E) (hp : PrimOK P E) : ∀ n, (∀ h, CodeOK P E n ((runs E n).code h)) ∧ CallOK P E (runs E n).call
  | 0 => ⟨fun h => ⟨fun c F e F' _ hr => (by cases hr), fun c F e F' _ hr => (by cases hr)⟩, fun f args S r S' hr => (by cases hr)⟩
  | n + 1 => by
    obtain ⟨h1, h2⟩ := runs_ok hE hp n
    have hd : ∀ h, DrawOK P E (runs E n).call h := by
      intro h
      cases n with
      | zero => rw [runs_zero_call] at h2 ⊢; exact draw_ok hE h2
      | succ n => rw [runs_succ_call] at h2 ⊢; exact draw_ok hE h2
    exact ⟨fun h => by rw [runs_succ_code]; exact execStep_ok hE h2 (hd h) (h1 h), by rw [runs_succ_call]; exact callStep_ok (enterStep_ok hE hp h1)⟩

/-- The call of a function in an operation, if there is one. -/
theorem opRun_call (E : Env) (hp : Bool) (at_ : Option Nat) (ev : Operand → Option PV) (S : St) (o : Oper) :
    (∃ f args, ∀ cf : CallF, opRun E cf hp at_ ev S o = cf f args S) ∨ ∃ q, ∀ cf : CallF, opRun E cf hp at_ ev S o = q := by
  unfold opRun
  cases o.op <;> dsimp only
  case call c =>
    cases evArgs ev c.args.toList with
    | none => exact .inr ⟨none, fun _ => rfl⟩
    | some args =>
      dsimp only
      cases c.callee with
      | value f =>
        dsimp only
        cases ev f with
        | none => exact .inr ⟨none, fun _ => rfl⟩
        | some p =>
          cases p with
          | func g first cap => exact .inl ⟨g, first ++ args ++ cap, fun _ => rfl⟩
          | _ => exact .inr ⟨none, fun _ => rfl⟩
      | _ => exact .inr ⟨_, fun _ => rfl⟩
  case makeFunc fn a b => cases fn <;> exact .inr ⟨_, fun _ => rfl⟩
  all_goals exact .inr ⟨_, fun _ => rfl⟩

theorem opAct_call (E : Env) (hp : Bool) (ops : Array Oper) (at_ : Option Nat) (o : Oper) (F : Fr) :
    (∃ f args, ∃ k : PV × St → Option Fr, ∀ cf : CallF, operRun E cf hp ops at_ o F = (cf f args F.S).bind k) ∨ ∃ q, ∀ cf : CallF, operRun E cf hp ops at_ o F = q := by
  unfold operRun
  cases guardOk ops F.regs o with
  | false => exact .inr ⟨_, fun _ => rfl⟩
  | true =>
    simp only [cond_true]
    rcases opRun_call E hp at_ (evalO E F.regs) F.S o with ⟨f, args, h⟩ | ⟨q, h⟩
    · simp only [h]
      by_cases hd : ∃ c, o.op = .defer c
      · obtain ⟨c, hc⟩ := hd
        rw [hc]
        exact .inr ⟨_, fun _ => rfl⟩
      · refine .inl ⟨f, args, fun x => putF F o.dst x.1 F.defers x.2, fun cf => ?_⟩
        cases ho : o.op
        case defer c => exact absurd ⟨_, ho⟩ hd
        all_goals (cases cf f args F.S <;> rfl)
    · simp only [h]
      exact .inr ⟨_, fun _ => rfl⟩

/-- A call is one entry, and what becomes of it. -/
theorem callStep_enter (E : Env) (f : Nat) (args : List PV) (S : St) :
    (∃ args' S', ∃ k : PV × St → Option (PV × St), ∀ enter : CallF, callStep E enter f args S = (enter f args' S').bind k) ∨ ∃ q, ∀ enter : CallF, callStep E enter f args S = q := by
  unfold callStep
  cases E.raw f
  · simp only [cond_false]
    cases mapO clean args with
    | some a =>
      refine .inl ⟨a, St.empty, fun x => match fz 0 x.2.bx 12 x.1 with | some v => some (v, S) | none => none, fun enter => ?_⟩
      dsimp only
      cases enter f a St.empty <;> rfl
    | none =>
      dsimp only
      cases E.ro f
      · simp only [cond_false]
        cases fitted (reach S.bx 1024 (args.flatMap (refs 4)) []) S.bx args
        · exact .inr ⟨none, fun _ => rfl⟩
        · refine .inl ⟨args, ⟨maskFrom (reach S.bx 1024 (args.flatMap (refs 4)) []) 0 S.bx, S.fr⟩, fun x => match out S.bx.length x.2.bx 12 x.1 with
            | some v => bif below S.bx.length (mergeFrom (reach S.bx 1024 (args.flatMap (refs 4)) []) 0 S.bx x.2.bx) then
                some (v, ⟨mergeFrom (reach S.bx 1024 (args.flatMap (refs 4)) []) 0 S.bx x.2.bx, x.2.fr⟩) else none
            | none => none, fun enter => ?_⟩
          simp only [cond_true]
          cases enter f args ⟨maskFrom (reach S.bx 1024 (args.flatMap (refs 4)) []) 0 S.bx, S.fr⟩ <;> rfl
      · refine .inl ⟨args, ⟨lendFrom (reach S.bx 1024 (args.flatMap (refs 4)) []) 0 S.bx, S.fr.map fun _ => none⟩, fun x => match fz 0 x.2.bx 12 x.1 with | some v => some (v, S) | none => none, fun enter => ?_⟩
        simp only [cond_true]
        cases enter f args ⟨lendFrom (reach S.bx 1024 (args.flatMap (refs 4)) []) 0 S.bx, S.fr.map fun _ => none⟩ <;> rfl
  · simp only [cond_true]
    cases fitted (reach S.bx 1024 (args.flatMap (refs 4)) []) S.bx args
    · exact .inr ⟨none, fun _ => rfl⟩
    · refine .inl ⟨args, ⟨maskFrom (reach S.bx 1024 (args.flatMap (refs 4)) []) 0 S.bx, S.fr⟩, fun x => some (x.1, ⟨mergeFrom (reach S.bx 1024 (args.flatMap (refs 4)) []) 0 S.bx x.2.bx ++ x.2.bx.drop S.bx.length, x.2.fr⟩), fun enter => ?_⟩
      simp only [cond_true]
      cases enter f args ⟨maskFrom (reach S.bx 1024 (args.flatMap (refs 4)) []) 0 S.bx, S.fr⟩ <;> rfl

abbrev CodeF := Bool → Code → Fr → Option (Ex × Fr)

/-- One comes to what the other comes to. -/
def LeC (a b : CallF) : Prop := ∀ f args S r, a f args S = some r → b f args S = some r
def LeK (a b : CodeF) : Prop := ∀ hp c F r, a hp c F = some r → b hp c F = some r

section
variable {E : Env}

theorem operRun_mono {a b : CallF} (h : LeC a b) {hp : Bool} {ops : Array Oper} {at_ : Option Nat} {o : Oper} {F F' : Fr} (hr : operRun E a hp ops at_ o F = some F') : operRun E b hp ops at_ o F = some F' := by
  rcases opAct_call E hp ops at_ o F with ⟨f, args, k, hk⟩ | ⟨q, hq⟩
  · rw [hk] at hr ⊢
    cases he : a f args F.S with
    | none => rw [he] at hr; cases hr
    | some x => rw [he] at hr; rw [h _ _ _ _ he]; exact hr
  · rw [hq] at hr ⊢; exact hr

theorem opsRun_mono {a b : CallF} (h : LeC a b) {hp : Bool} {ops : Array Oper} : ∀ {l : List Oper} {F F' : Fr}, opsRun E a hp ops l F = some F' → opsRun E b hp ops l F = some F'
  | [], _, _, hr => hr
  | o :: l, F, F', hr => by
    unfold opsRun at hr ⊢
    split at hr
    · rename_i F1 h1; rw [operRun_mono h h1]; exact opsRun_mono h hr
    · cases hr

theorem opsDraw_mono {a b : CallF} (h : LeC a b) {hp : Bool} {ops : Array Oper} : ∀ {l : List (Option Nat × Oper)} {F : Fr} {r : Fr × List Eff}, opsDraw E a hp ops l F = some r → opsDraw E b hp ops l F = some r
  | [], _, _, hr => hr
  | (at_, o) :: l, F, r, hr => by
    unfold opsDraw at hr ⊢
    split at hr
    · rename_i F1 h1
      rw [operRun_mono h h1]
      dsimp only
      split at hr
      · rename_i F2 es h2; rw [opsDraw_mono h h2]; exact hr
      · cases hr
    · cases hr

theorem regionRun_mono {a b : CallF} (h : LeC a b) {hp draw : Bool} {ops : Array Oper} {F F' : Fr} (hr : regionRun E a hp ops draw F = some F') : regionRun E b hp ops draw F = some F' := by
  unfold regionRun at hr ⊢
  cases draw with
  | false => exact opsRun_mono h hr
  | true =>
    simp only [cond_true] at hr ⊢
    split at hr
    · rename_i F1 es h1; rw [opsDraw_mono h h1]; exact hr
    · cases hr

theorem execStep_mono {a b : CallF} (h : LeC a b) {x y : Code → Fr → Option (Ex × Fr)} (hs : ∀ c F r, x c F = some r → y c F = some r) {hp : Bool} {c : Code} {F : Fr} {r : Ex × Fr} (hr : execStep E a hp x c F = some r) : execStep E b hp y c F = some r := by
  unfold execStep at hr ⊢
  cases c <;> dsimp only at hr ⊢ <;> try exact hr
  case region id ops draw =>
    split at hr
    · rename_i F1 h1; rw [regionRun_mono h h1]; exact hr
    · cases hr
  case seq c d =>
    cases hc : x c F with
    | none => rw [hc] at hr; cases hr
    | some q =>
      rw [hc] at hr
      rw [hs _ _ _ hc]
      obtain ⟨e, F1⟩ := q
      cases e with
      | normal => exact hs _ _ _ hr
      | _ => exact hr
  case cond p c d =>
    split at hr
    · rename_i t ht
      cases t
      · exact hs _ _ _ hr
      · exact hs _ _ _ hr
    · cases hr
  case block id c =>
    cases hc : x c F with
    | none => rw [hc] at hr; cases hr
    | some q => rw [hc] at hr; rw [hs _ _ _ hc]; exact hr
  case loop c =>
    cases hc : x c F with
    | none => rw [hc] at hr; cases hr
    | some q =>
      rw [hc] at hr
      rw [hs _ _ _ hc]
      obtain ⟨e, F1⟩ := q
      cases e with
      | normal => exact hs _ _ _ hr
      | _ => exact hr

theorem runDefers_mono {x y : CodeF} (hs : LeK x y) : ∀ {D : List (PV × List PV)} {S S' : St}, runDefers E x D S = some S' → runDefers E y D S = some S'
  | [], _, _, hr => hr
  | (p, args) :: D, S, S', hr => by
    cases p with
    | func f first cap =>
      unfold runDefers at hr ⊢
      split at hr
      · rename_i fn hfn
        split at hr
        · rename_i c hc
          simp only [cond_eq_ite] at hr ⊢
          split at hr
          · rename_i hle
            simp only [hle, if_true]
            cases hx : x (E.heapy f) c ⟨fn.ntmps, numb 0 (first ++ args ++ cap), [], S⟩ with
            | none => rw [hx] at hr; cases hr
            | some q =>
              rw [hx] at hr
              rw [hs _ _ _ _ hx]
              obtain ⟨e, F⟩ := q
              cases e <;> dsimp only at hr ⊢
              · split at hr
                · exact runDefers_mono hs hr
                · cases hr
              · split at hr
                · exact runDefers_mono hs hr
                · cases hr
              · cases hr
          · cases hr
        · cases hr
      · cases hr
    | _ => unfold runDefers at hr; cases hr

theorem enterStep_mono {x y : CodeF} (hs : LeK x y) : LeC (enterStep E x) (enterStep E y) := by
  intro f args S r hr
  unfold enterStep at hr ⊢
  split at hr
  · exact hr
  · split at hr
    · rename_i fn hfn
      split at hr
      · rename_i c hc
        simp only [cond_eq_ite] at hr ⊢
        split at hr
        · rename_i hle
          simp only [hle, if_true]
          cases hx : x (E.heapy f) c ⟨fn.ntmps, numb 0 args, [], S⟩ with
          | none => rw [hx] at hr; cases hr
          | some q =>
            rw [hx] at hr
            rw [hs _ _ _ _ hx]
            obtain ⟨e, F⟩ := q
            cases e <;> dsimp only at hr ⊢
            · split at hr
              · rename_i S2 h2; rw [runDefers_mono hs h2]; exact hr
              · cases hr
            · split at hr
              · rename_i S2 h2; rw [runDefers_mono hs h2]; exact hr
              · cases hr
            · cases hr
        · cases hr
      · cases hr
    · cases hr

theorem callStep_mono {a b : CallF} (h : LeC a b) : LeC (callStep E a) (callStep E b) := by
  intro f args S r hr
  rcases callStep_enter E f args S with ⟨args', S', k, hk⟩ | ⟨q, hq⟩
  · rw [hk] at hr ⊢
    cases he : a f args' S' with
    | none => rw [he] at hr; cases hr
    | some x => rw [he] at hr; rw [h _ _ _ _ he]; exact hr
  · rw [hq] at hr ⊢; exact hr

theorem runs_mono1 : ∀ n, LeC (runs E n).call (runs E (n + 1)).call ∧ LeK (runs E n).code (runs E (n + 1)).code
  | 0 => ⟨fun f args S r h => (by cases h), fun hp c F r h => (by cases h)⟩
  | n + 1 => by
    obtain ⟨h1, h2⟩ := runs_mono1 n
    exact ⟨by rw [runs_succ_call, runs_succ_call]; exact callStep_mono (enterStep_mono h2), fun hp c F r h => by
      rw [runs_succ_code] at h ⊢
      exact execStep_mono h1 (h2 hp) h⟩

theorem runs_mono {n m : Nat} (h : n ≤ m) : LeC (runs E n).call (runs E m).call ∧ LeK (runs E n).code (runs E m).code := by
  induction h with
  | refl => exact ⟨fun _ _ _ _ h => h, fun _ _ _ _ h => h⟩
  | step h ih => exact ⟨fun f args S r hr => (runs_mono1 _).1 _ _ _ _ (ih.1 _ _ _ _ hr), fun hp c F r hr => (runs_mono1 _).2 _ _ _ _ (ih.2 _ _ _ _ hr)⟩

end

open Classical in
/-- What some fuel gives. -/
noncomputable def limit {α : Type} (p : Nat → Option α) : Option α := if h : ∃ n r, p n = some r then some (Classical.choose (Classical.choose_spec h)) else none

theorem limit_iff {α : Type} {p : Nat → Option α} (hm : ∀ n m r, n ≤ m → p n = some r → p m = some r) {r : α} : limit p = some r ↔ ∃ n, p n = some r := by
  unfold limit
  constructor
  · intro h
    split at h
    · rename_i hx
      simp at h
      rw [← h]
      exact ⟨_, Classical.choose_spec (Classical.choose_spec hx)⟩
    · cases h
  · rintro ⟨n, hn⟩
    have hx : ∃ n r, p n = some r := ⟨n, r, hn⟩
    rw [dif_pos hx]
    have h2 := Classical.choose_spec (Classical.choose_spec hx)
    generalize Classical.choose (Classical.choose_spec hx) = r2 at h2 ⊢
    rcases Nat.le_total n (Classical.choose hx) with h | h
    · have := hm _ _ _ h hn
      rw [← h2, this]
    · have := hm _ _ _ h h2
      rw [← this, hn]

/-- The machine without fuel. -/
noncomputable def callW (E : Env) : CallF := fun f args S => limit fun n => (runs E n).call f args S
noncomputable def codeW (E : Env) : CodeF := fun hp c F => limit fun n => (runs E n).code hp c F

section
variable {E : Env}

theorem callW_iff {f : Nat} {args : List PV} {S : St} {r : PV × St} : callW E f args S = some r ↔ ∃ n, (runs E n).call f args S = some r :=
  limit_iff fun _ _ r h => (runs_mono h).1 _ _ _ r

theorem codeW_iff {hp : Bool} {c : Code} {F : Fr} {r : Ex × Fr} : codeW E hp c F = some r ↔ ∃ n, (runs E n).code hp c F = some r :=
  limit_iff fun _ _ r h => (runs_mono h).2 _ _ _ r

theorem le_callW (n : Nat) : LeC (runs E n).call (callW E) := fun _ _ _ _ h => callW_iff.2 ⟨n, h⟩
theorem le_codeW (n : Nat) : LeK (runs E n).code (codeW E) := fun _ _ _ _ h => codeW_iff.2 ⟨n, h⟩

theorem operRun_lim {hp : Bool} {ops : Array Oper} {at_ : Option Nat} {o : Oper} {F F' : Fr} (hr : operRun E (callW E) hp ops at_ o F = some F') : ∃ n, operRun E (runs E n).call hp ops at_ o F = some F' := by
  rcases opAct_call E hp ops at_ o F with ⟨f, args, k, hk⟩ | ⟨q, hq⟩
  · rw [hk] at hr
    cases he : callW E f args F.S with
    | none => rw [he] at hr; cases hr
    | some x =>
      rw [he] at hr
      obtain ⟨n, hn⟩ := callW_iff.1 he
      exact ⟨n, by rw [hk, hn]; exact hr⟩
  · rw [hq] at hr; exact ⟨0, by rw [hq]; exact hr⟩

theorem opsRun_lim {hp : Bool} {ops : Array Oper} : ∀ {l : List Oper} {F F' : Fr}, opsRun E (callW E) hp ops l F = some F' → ∃ n, opsRun E (runs E n).call hp ops l F = some F'
  | [], _, _, hr => ⟨0, hr⟩
  | o :: l, F, F', hr => by
    unfold opsRun at hr
    split at hr
    · rename_i F1 h1
      obtain ⟨n, hn⟩ := operRun_lim h1
      obtain ⟨m, hm⟩ := opsRun_lim hr
      refine ⟨max n m, ?_⟩
      unfold opsRun
      rw [operRun_mono (runs_mono (Nat.le_max_left n m)).1 hn]
      exact opsRun_mono (runs_mono (Nat.le_max_right n m)).1 hm
    · cases hr

theorem opsDraw_lim {hp : Bool} {ops : Array Oper} : ∀ {l : List (Option Nat × Oper)} {F : Fr} {r : Fr × List Eff}, opsDraw E (callW E) hp ops l F = some r → ∃ n, opsDraw E (runs E n).call hp ops l F = some r
  | [], _, _, hr => ⟨0, hr⟩
  | (at_, o) :: l, F, r, hr => by
    unfold opsDraw at hr
    split at hr
    · rename_i F1 h1
      split at hr
      · rename_i F2 es h2
        obtain ⟨n, hn⟩ := operRun_lim h1
        obtain ⟨m, hm⟩ := opsDraw_lim h2
        refine ⟨max n m, ?_⟩
        unfold opsDraw
        rw [operRun_mono (runs_mono (Nat.le_max_left n m)).1 hn]
        dsimp only
        rw [opsDraw_mono (runs_mono (Nat.le_max_right n m)).1 hm]
        exact hr
      · cases hr
    · cases hr

theorem regionRun_lim {hp draw : Bool} {ops : Array Oper} {F F' : Fr} (hr : regionRun E (callW E) hp ops draw F = some F') : ∃ n, regionRun E (runs E n).call hp ops draw F = some F' := by
  unfold regionRun at hr ⊢
  cases draw with
  | false => exact opsRun_lim hr
  | true =>
    simp only [cond_true] at hr ⊢
    split at hr
    · rename_i F1 es h1
      obtain ⟨n, hn⟩ := opsDraw_lim h1
      exact ⟨n, by rw [hn]; exact hr⟩
    · cases hr

theorem codeW_eq (hp : Bool) (c : Code) (F : Fr) : codeW E hp c F = execStep E (callW E) hp (codeW E hp) c F := by
  refine Option.ext fun r => ?_
  constructor
  · intro h
    obtain ⟨n, hn⟩ := codeW_iff.1 h
    cases n with
    | zero => cases hn
    | succ n =>
      rw [runs_succ_code] at hn
      exact execStep_mono (le_callW n) (le_codeW n hp) hn
  · intro hr
    have up : ∀ n, execStep E (runs E n).call hp ((runs E n).code hp) c F = some r → codeW E hp c F = some r := fun n hn => codeW_iff.2 ⟨n + 1, by rw [runs_succ_code]; exact hn⟩
    have two : ∀ c1 c2 F1 F2 r1 r2, codeW E hp c1 F1 = some r1 → codeW E hp c2 F2 = some r2 → ∃ n, (runs E n).code hp c1 F1 = some r1 ∧ (runs E n).code hp c2 F2 = some r2 := by
      intro c1 c2 F1 F2 r1 r2 h1 h2
      obtain ⟨n, hn⟩ := codeW_iff.1 h1
      obtain ⟨m, hm⟩ := codeW_iff.1 h2
      exact ⟨max n m, (runs_mono (Nat.le_max_left n m)).2 _ _ _ _ hn, (runs_mono (Nat.le_max_right n m)).2 _ _ _ _ hm⟩
    have seqs : ∀ c1 c2, (match codeW E hp c1 F with | some (.normal, F) => codeW E hp c2 F | r => r) = some r → ∃ n, (match (runs E n).code hp c1 F with | some (.normal, F) => (runs E n).code hp c2 F | r => r) = some r := by
      intro c1 c2 h
      cases hc : codeW E hp c1 F with
      | none => rw [hc] at h; cases h
      | some q =>
        rw [hc] at h
        obtain ⟨e, F1⟩ := q
        cases e with
        | normal =>
          obtain ⟨n, h1, h2⟩ := two _ _ _ _ _ _ hc h
          exact ⟨n, by rw [h1]; exact h2⟩
        | ret =>
          obtain ⟨n, hn⟩ := codeW_iff.1 hc
          exact ⟨n, by rw [hn]; exact h⟩
        | exit k =>
          obtain ⟨n, hn⟩ := codeW_iff.1 hc
          exact ⟨n, by rw [hn]; exact h⟩
    unfold execStep at hr up
    cases c <;> dsimp only at hr up <;> try exact up 0 hr
    case region id ops draw =>
      split at hr
      · rename_i F1 h1
        obtain ⟨n, hn⟩ := regionRun_lim h1
        exact up n (by rw [hn]; exact hr)
      · cases hr
    case seq c d => obtain ⟨n, hn⟩ := seqs c d hr; exact up n hn
    case cond p c d =>
      split at hr
      · rename_i t ht
        rw [ht] at up
        cases t <;> obtain ⟨n, hn⟩ := codeW_iff.1 hr <;> exact up n hn
      · cases hr
    case block id c =>
      cases hc : codeW E hp c F with
      | none => rw [hc] at hr; cases hr
      | some q =>
        rw [hc] at hr
        obtain ⟨n, hn⟩ := codeW_iff.1 hc
        exact up n (by rw [hn]; exact hr)
    case loop c => obtain ⟨n, hn⟩ := seqs c (.loop c) hr; exact up n hn

theorem runDefers_lim : ∀ {D : List (PV × List PV)} {S S' : St}, runDefers E (codeW E) D S = some S' → ∃ n, runDefers E (runs E n).code D S = some S'
  | [], _, _, hr => ⟨0, hr⟩
  | (p, args) :: D, S, S', hr => by
    cases p with
    | func f first cap =>
      unfold runDefers at hr
      split at hr
      · rename_i fn hfn
        split at hr
        · rename_i c hc
          simp only [cond_eq_ite] at hr
          split at hr
          · rename_i hle
            cases hx : codeW E (E.heapy f) c ⟨fn.ntmps, numb 0 (first ++ args ++ cap), [], S⟩ with
            | none => rw [hx] at hr; cases hr
            | some q =>
              rw [hx] at hr
              obtain ⟨n, hn⟩ := codeW_iff.1 hx
              obtain ⟨e, F⟩ := q
              have key : ∀ m, runDefers E (runs E m).code D F.S = some S' → F.defers = [] → (∃ v, resultsOf E fn F.regs F.S = some v) → (e = .normal ∨ e = .ret) → ∃ n, runDefers E (runs E n).code ((.func f first cap, args) :: D) S = some S' := by
                rintro m hm hd ⟨v, hv⟩ he
                refine ⟨max n m, ?_⟩
                unfold runDefers
                rw [hfn]; dsimp only; rw [hc]; dsimp only
                simp only [cond_eq_ite, hle, if_true]
                rw [(runs_mono (Nat.le_max_left n m)).2 _ _ _ _ hn]
                have h2 := runDefers_mono (runs_mono (Nat.le_max_right n m)).2 hm
                rcases he with rfl | rfl <;> (dsimp only; rw [hd, hv]; exact h2)
              cases e <;> dsimp only at hr
              · split at hr
                · rename_i v hd hv; obtain ⟨m, hm⟩ := runDefers_lim hr; exact key m hm hd ⟨_, hv⟩ (.inl rfl)
                · cases hr
              · split at hr
                · rename_i v hd hv; obtain ⟨m, hm⟩ := runDefers_lim hr; exact key m hm hd ⟨_, hv⟩ (.inr rfl)
                · cases hr
              · cases hr
          · cases hr
        · cases hr
      · cases hr
    | _ => unfold runDefers at hr; cases hr

theorem enterStep_lim {f : Nat} {args : List PV} {S : St} {r : PV × St} (hr : enterStep E (codeW E) f args S = some r) : ∃ n, enterStep E (runs E n).code f args S = some r := by
  unfold enterStep at hr
  split at hr
  · rename_i p hp
    exact ⟨0, by unfold enterStep; rw [hp]; exact hr⟩
  · rename_i hp
    split at hr
    · rename_i fn hfn
      split at hr
      · rename_i c hc
        simp only [cond_eq_ite] at hr
        split at hr
        · rename_i hle
          cases hx : codeW E (E.heapy f) c ⟨fn.ntmps, numb 0 args, [], S⟩ with
          | none => rw [hx] at hr; cases hr
          | some q =>
            rw [hx] at hr
            obtain ⟨n, hn⟩ := codeW_iff.1 hx
            obtain ⟨e, F⟩ := q
            have key : ∀ m S2, runDefers E (runs E m).code F.defers F.S = some S2 → (match resultsOf E fn F.regs S2 with | some v => some (v, S2) | none => none) = some r → (e = .normal ∨ e = .ret) →
                ∃ n, enterStep E (runs E n).code f args S = some r := by
              intro m S2 hm h2 he
              refine ⟨max n m, ?_⟩
              unfold enterStep
              rw [hp, hfn]; dsimp only; rw [hc]; dsimp only
              simp only [cond_eq_ite, hle, if_true]
              rw [(runs_mono (Nat.le_max_left n m)).2 _ _ _ _ hn]
              have h3 := runDefers_mono (runs_mono (Nat.le_max_right n m)).2 hm
              rcases he with rfl | rfl <;> (dsimp only; rw [h3]; exact h2)
            cases e <;> dsimp only at hr
            · split at hr
              · rename_i S2 h2; obtain ⟨m, hm⟩ := runDefers_lim h2; exact key m S2 hm hr (.inl rfl)
              · cases hr
            · split at hr
              · rename_i S2 h2; obtain ⟨m, hm⟩ := runDefers_lim h2; exact key m S2 hm hr (.inr rfl)
              · cases hr
            · cases hr
        · cases hr
      · cases hr
    · cases hr

theorem callW_eq (f : Nat) (args : List PV) (S : St) : callW E f args S = callStep E (enterStep E (codeW E)) f args S := by
  refine Option.ext fun r => ?_
  constructor
  · intro h
    obtain ⟨n, hn⟩ := callW_iff.1 h
    cases n with
    | zero => cases hn
    | succ n =>
      rw [runs_succ_call] at hn
      exact callStep_mono (enterStep_mono (le_codeW n)) _ _ _ _ hn
  · intro hr
    rcases callStep_enter E f args S with ⟨args', S', k, hk⟩ | ⟨q, hq⟩
    · rw [hk] at hr
      cases he : enterStep E (codeW E) f args' S' with
      | none => rw [he] at hr; cases hr
      | some x =>
        rw [he] at hr
        obtain ⟨n, hn⟩ := enterStep_lim he
        exact callW_iff.2 ⟨n + 1, by rw [runs_succ_call, hk, hn]; exact hr⟩
    · rw [hq] at hr
      exact callW_iff.2 ⟨1, by rw [runs_succ_call, hq]; exact hr⟩

theorem callW_ok {P : Program} (hE : EOk P E) (hp : PrimOK P E) : CallOK P E (callW E) := by
  intro f args S r S' h
  obtain ⟨n, hn⟩ := callW_iff.1 h
  exact (runs_ok hE hp n).2 f args S r S' hn

end
end Go.Am

/- What a program's tables tell the machine. No condition. -/
namespace Go.Am

def kindOf (P : Program) : TypeDesc → TK
  | .int k => .int k
  | .bool => .bool
  | .string => .str
  | .pointer e => .ptr e
  | .unsafePointer => .unsafep
  | .slice e => .slice e
  | .array n e => .arr n e
  | .struct F => bif F.toList.all (fun f => (P.info? f.type).isSome) then .struct (F.toList.map fun f => (f.offset, f.type)) else .other
  | .interface ms => .iface ms.size
  | .func _ _ _ => .func
  | .tuple _ => .tuple
  | _ => .other

def TK.isOther : TK → Bool
  | .other => true
  | _ => false

def isAggV : Value → Bool
  | .agg _ => true
  | _ => false

def eqgOf (P : Program) (t : Nat) (d : TypeDesc) : Bool :=
  !(P.eqGuardType P.depth t) && (!(P.stoodInHeld t) && (match d with | .struct F => F.toList.all (fun f => f.name != "_") | _ => true))

/-- The machine's row of a type. -/
def tiOf (P : Program) (t : Nat) : Option TI :=
  match P.info? t, P.underlying t with
  | some i, some d =>
    match i.zero with
    | some z => match ofCells z.cells.toList with
      | some cs =>
        bif Nat.beq cs.length i.size && ((kindOf P d).agg == isAggV z && !(kindOf P d).isOther) then some ⟨kindOf P d, i.size, i.bytes, cs, i.comparable, eqgOf P t d⟩ else none
      | none => none
    | none => none
  | _, _ => none

theorem tiOf_ok {P : Program} {t : Nat} {ti : TI} (h : tiOf P t = some ti) : TIok P t ti := by
  unfold tiOf at h
  split at h
  rotate_left
  · cases h
  rename_i i d hi hd
  split at h
  rotate_left
  · cases h
  rename_i z hz
  split at h
  rotate_left
  · cases h
  rename_i cs hcs
  simp only [cond_eq_ite] at h
  split at h
  rotate_left
  · cases h
  rename_i hc
  simp only [Bool.and_eq_true, nat_beq, beq_iff_eq, Bool.not_eq_true'] at hc
  obtain ⟨h1, h2, h3⟩ := hc
  simp at h; subst h
  refine ⟨⟨i, z, hi, rfl, rfl, hz, hcs, rfl, h1, ?_⟩, ?_, ?_⟩
  · show (kindOf P d).agg = true ↔ _
    rw [h2]
    cases z <;> simp [isAggV]
  · intro he
    simp only [eqgOf, Bool.and_eq_true, Bool.not_eq_true'] at he
    obtain ⟨e1, e2, e3⟩ := he
    refine ⟨e1, e2, fun F hF f hf => ?_⟩
    rw [hd] at hF; cases hF
    simp only [List.all_eq_true] at e3
    simpa using e3 f hf
  · cases d <;> simp only [kindOf] at h3 ⊢ <;> try (simp [TK.isOther] at h3; done)
    case struct F =>
      cases hall : F.toList.all (fun f => (P.info? f.type).isSome) with
      | false => rw [hall] at h3; simp [TK.isOther] at h3
      | true =>
        simp only [cond_true]
        exact ⟨F, hd, rfl, fun f hf => List.all_eq_true.1 hall f hf⟩
    case interface ms => exact ⟨ms, hd, rfl⟩
    case func a b c => exact ⟨a, b, c, hd⟩
    case tuple a => exact ⟨a, hd⟩
    all_goals exact hd

/-- Is a function's code in order? -/
def saneFn (o : Option Func) : Bool :=
  match o with
  | some fn => fn.name != "runtime.NumGoroutine" && (match fn.body with | some c => saneCode c | none => true)
  | none => true

theorem map_range {α : Type} {f g : Nat → α} {n : Nat} (h : (List.range n).map f = (List.range n).map g) : ∀ k, k < n → f k = g k := by
  intro k hk
  have := congrArg (fun l => l[k]?) h
  simpa [List.getElem?_map, hk] using this

theorem pick_of {α : Type} {a b : Option α} (h : a = bif a.isSome then b else none) : a = none ∨ a = b := by
  cases a with
  | none => exact .inl rfl
  | some x => exact .inr h

/-- The machine's tables are the program's. -/
theorem eok_of {P : Program} {E : Env} (n m : Nat) (ht : ∀ t, n ≤ t → E.tt t = none) (hf : ∀ f, m ≤ f → E.fn f = none)
    (htt : ∀ t, t < n → E.tt t = none ∨ E.tt t = tiOf P t) (hfn : ∀ f, f < m → E.fn f = none ∨ E.fn f = P.funcs[f]?)
    (hs : (List.range m).all (fun f => saneFn (E.fn f)) = true) (hm : P.follows .mixedOrders = true) : EOk P E where
  tt := fun t ti h => by
    rcases Nat.lt_or_ge t n with hlt | hge
    · rcases htt t hlt with h' | h'
      · rw [h'] at h; cases h
      · rw [h'] at h; exact tiOf_ok h
    · rw [ht t hge] at h; cases h
  fn := fun f fn h => by
    rcases Nat.lt_or_ge f m with hlt | hge
    · rcases hfn f hlt with h' | h'
      · rw [h'] at h; cases h
      · have h2 := List.all_eq_true.1 hs f (by simpa using hlt)
        rw [h] at h2
        simp only [saneFn, Bool.and_eq_true, bne_iff_ne, ne_eq] at h2
        exact ⟨by rw [← h', h], by simpa using h2.1⟩
    · rw [hf f hge] at h; cases h
  sane := fun f fn c h hc => by
    rcases Nat.lt_or_ge f m with hlt | hge
    · have h2 := List.all_eq_true.1 hs f (by simpa using hlt)
      rw [h] at h2
      simp only [saneFn, hc, Bool.and_eq_true] at h2
      exact h2.2
    · rw [hf f hge] at h; cases h
  mixed := hm

end Go.Am

/- strings.Builder's copyCheck, String and Grow, told to the machine out of what the program's own code does (which is shown per program). No condition. -/
namespace Go.Am

/-- copyCheck: the builder's own address is noted. -/
def primCopy (T : Nat) : List PV → St → Option (PV × St)
  | [.ptr i 0], S => match S.bx[i]? with
    | some (.cells t (.nilptr :: x :: r)) => bif Nat.beq t T then some (undef, ⟨S.bx.set i (.cells t (.ptr i 0 :: x :: r)), S.fr⟩) else none
    | some (.cells t (.ptr j 0 :: _ :: _)) => bif Nat.beq t T && Nat.beq j i then some (undef, S) else none
    | _ => none
  | _, _ => none

/-- String: the bytes; what held them may not grow any more. -/
def primStr (T e : Nat) : List PV → St → Option (PV × St)
  | [.ptr i 0], S => match S.bx[i]? with
    | some (.cells t (_ :: .nilslice :: _)) => bif Nat.beq t T then some (.str [], S) else none
    | some (.cells t (_ :: .slice (.id g) n cells :: _)) =>
      match S.fr[g]?, bytesOf cells with
      | some (some (len, e')), some l => bif Nat.beq t T && (Nat.beq e' e && (Nat.beq len cells.length && (Nat.beq n cells.length && Nat.blt 0 n))) then some (.str l, ⟨S.bx, S.fr.set g none⟩) else none
      | _, _ => none
    | _ => none
  | _, _ => none

/-- Grow, of a builder that has not been written: room, and no byte. -/
def primGrow (T e : Nat) : List PV → St → Option (PV × St)
  | [.ptr i 0, .int .i64 (.ofNat n)], S => match S.bx[i]? with
    | some (.cells t (.nilptr :: .nilslice :: r)) =>
      bif Nat.beq t T && (Nat.blt 0 n && Nat.ble n maxBytes) then
        some (undef, ⟨S.bx.set i (.cells t (.ptr i 0 :: .slice (.id S.fr.length) 0 [] :: r)), S.fr ++ [some (0, e)]⟩)
      else none
    | _ => none
  | _, _ => none

/-- What the program's own code of the three does. -/
structure BuilderOk (P : Program) (T e fc fs fg : Nat) : Prop where
  enter : ∀ f, f = fc ∨ f = fs ∨ f = fg → ∀ vs w, (callFunc f vs).run P w = .ok (.enter f vs) w
  fresh : ∀ (b n : Nat) (w : World), w.cell? ⟨b, 0, none⟩ = some (.pointer none) → w.shape? b = some (T, n) → 2 ≤ n → w.frozen? ⟨b, 0, none⟩ = false →
    Calls P fc #[.pointer (some ⟨b, 0, none⟩)] w fun x w' => x = .returned (.tuple #[]) ∧ w' = w.setCell ⟨b, 0, none⟩ (.pointer (some ⟨b, 0, none⟩))
  used : ∀ (b : Nat) (w : World), w.cell? ⟨b, 0, none⟩ = some (.pointer (some ⟨b, 0, none⟩)) → Calls P fc #[.pointer (some ⟨b, 0, none⟩)] w fun x w' => x = .returned (.tuple #[]) ∧ w' = w
  str0 : ∀ (b : Nat) (w : World), w.cell? ⟨b, 1, none⟩ = some (.slice none 0 0) → Calls P fs #[.pointer (some ⟨b, 0, none⟩)] w fun x w' => x = .returned (.string .empty) ∧ w'.heap = w.heap ∧ Still w w'
  str : ∀ (b g cap : Nat) (cur : Array Value) (l : List UInt8) (w : World), w.cell? ⟨b, 1, none⟩ = some (.slice (some ⟨g, 0, none⟩) l.length cap) → w.heap[g]? = some (.cells cur e (0, 0)) → l ≠ [] → l.length ≤ cap → cap ≤ maxLen → cap ≤ cur.size →
    (∀ (j : Nat) (x : UInt8), l[j]? = some x → cur[j]? = some (Value.int .u8 x.toNat)) → Calls P fs #[.pointer (some ⟨b, 0, none⟩)] w fun x w' => x = .returned (.string ⟨l.toArray⟩) ∧ w'.heap = (w.freeze ⟨g, 0, none⟩ l.length).heap ∧ Still w w'
  grow : ∀ (b n : Nat) (vs : Array Value) (w : World), w.heap[b]? = some (.cells vs T (0, 0)) → 2 ≤ vs.size → vs[0]? = some (.pointer none) → vs[1]? = some (.slice none 0 0) → 0 < n → n ≤ maxBytes →
    Calls P fg #[Value.pointer (some ⟨b, 0, none⟩), Value.int .i64 n] w fun x w' => x = .returned (.tuple #[]) ∧ ∃ cs : Array Value, n ≤ cs.size ∧ cs.size ≤ maxLen ∧
      w'.heap = (((w.setCell ⟨b, 0, none⟩ (.pointer (some ⟨b, 0, none⟩))).alloc (.cells cs e)).setCell ⟨b, 1, none⟩ (.slice (some ⟨w.heap.size, 0, none⟩) 0 cs.size)).heap ∧ Still w w'

section
variable {P : Program} {E : Env} {C : Conf} {S : St} {w0 : Base} {w : World} {N : Nat → Prop} {T e fc fs fg : Nat}

theorem ptr_own {i off : Nat} {x : Value} {t : Nat} {l : List PV} (h : VRel C S (.ptr i off) x) (hb : S.bx[i]? = some (.cells t l)) : x = .pointer (some ⟨C.be i, off, none⟩) := by
  cases h with
  | clean _ _ h => cases h
  | ptr _ _ a b hi hh ha =>
    rw [hb] at hi; cases hi
    rw [ha rfl]

theorem args1 {p : PV} {vs : Array Value} (h : ARel C S [p] vs) : ∃ x, vs = #[x] ∧ VRel C S p x := by
  obtain ⟨h1, h2⟩ := h
  match vs, h1 with
  | ⟨[x]⟩, _ => exact ⟨x, rfl, h2 0 (by simp) (by simp)⟩

theorem args2 {p q : PV} {vs : Array Value} (h : ARel C S [p, q] vs) : ∃ x y, vs = #[x, y] ∧ VRel C S p x ∧ VRel C S q y := by
  obtain ⟨h1, h2⟩ := h
  match vs, h1 with
  | ⟨[x, y]⟩, _ => exact ⟨x, y, rfl, h2 0 (by simp) (by simp), h2 1 (by simp) (by simp)⟩

theorem gets_enter {f : Nat} {vs : Array Value} {R : Value → World → Prop} (h : (callFunc f vs).run P w = .ok (.enter f vs) w) (hc : Calls P f vs w fun x w' => ∃ v, x = .returned v ∧ R v w') :
    Gets P ((callFunc f vs).run P w) R := by
  rw [h]; exact hc

theorem setCell_heap {w : World} {b k : Nat} {cs : Array Value} {t : Nat} {fz : Nat × Nat} (h : w.heap[b]? = some (.cells cs t fz)) (v : Value) : (w.setCell ⟨b, k, none⟩ v).heap[b]? = some (.cells (cs.setIfInBounds k v) t fz) := by
  simp [World.setCell, Array.getElem?_modify, h]

theorem setCell_other {w : World} {b k j : Nat} (v : Value) (h : j ≠ b) : (w.setCell ⟨b, k, none⟩ v).heap[j]? = w.heap[j]? := by
  simp [World.setCell, Array.getElem?_modify, Ne.symm h]

theorem setCell_size (w : World) (a : Addr) (v : Value) : (w.setCell a v).heap.size = w.heap.size := by simp [World.setCell]

theorem reads_set {l : List PV} {cs : Array Value} {k : Nat} {p : PV} {v : Value} (h : Reads C S (fun j => cs[j]?) l) (hk : k < l.length) (hs : l.length ≤ cs.size) (hv : VRel C S p v) (ho : p.one = true) :
    Reads C S (fun j => (cs.setIfInBounds k v)[j]?) (l.set k p) := by
  intro j hj
  simp only [List.length_set] at hj
  by_cases e : k = j
  · subst e
    have : k < cs.size := by omega
    exact ⟨v, by simp [this], by simpa using hv, by simpa using ho⟩
  · obtain ⟨u, h1, h2, h3⟩ := h j hj
    exact ⟨u, by simpa [Array.getElem?_setIfInBounds_ne e] using h1, by simpa [List.getElem_set_ne e] using h2, by simpa [List.getElem_set_ne e] using h3⟩

theorem primCopy_ok (hB : BuilderOk P T e fc fs fg) : CallOK P E (fun g args S => if g = fc then primCopy T args S else none) := by
  intro g args S r S' h C w0 N w vs hg hw ha
  dsimp only at h
  split at h
  rotate_left
  · cases h
  rename_i hgf; subst hgf
  have hent := hB.enter g (.inl rfl)
  unfold primCopy at h
  split at h
  rotate_left
  · cases h
  rename_i i
  obtain ⟨x, rfl, hx⟩ := args1 ha
  split at h
  · rename_i t y l hb
    simp only [cond_eq_ite, nat_beq] at h
    split at h
    rotate_left
    · cases h
    rename_i ht; subst ht
    simp at h; obtain ⟨rfl, rfl⟩ := h
    have hxe := ptr_own hx hb
    subst hxe
    obtain ⟨cs, g1, g2, g3, g4⟩ := hw.cells i t _ hb
    have c0 : cs[0]? = some (.pointer none) := by
      obtain ⟨u, u1, u2, _⟩ := g4 0 (by simp)
      simp only [List.getElem_cons_zero] at u2
      cases u2 with
      | clean _ _ u2 => cases u2; exact u1
    simp only [List.length_cons] at g2
    have hv : VRel C S (.ptr i 0) (.pointer (some ⟨C.be i, 0, none⟩)) := hx
    refine gets_enter (hent _ w) ((hB.fresh (C.be i) cs.size w (by simp [World.cell?, g1, c0]) (by simp [World.shape?, g1]) (by omega) (by simp [World.frozen?, g1])).mono ?_)
    rintro _ w' ⟨rfl, rfl⟩
    have hr := reads_set (k := 0) (p := .ptr i 0) g4 (by simp) (by simp; omega) hv rfl
    obtain ⟨q1, q2⟩ := hw.rewrite (b' := .cells t (.ptr i 0 :: y :: l)) hb rfl rfl (w' := w.setCell ⟨C.be i, 0, none⟩ (.pointer (some ⟨C.be i, 0, none⟩))) (by rw [setCell_size]; exact Nat.le_refl _)
      (fun k hk _ => setCell_other _ hk) (fun t' l' he => by
        cases he
        exact ⟨_, setCell_heap g1 _, by simp; omega, by simpa using g3, by simpa using hr⟩) (fun l' pos he => by cases he)
    exact ⟨_, rfl, C, q1, vrel_undef _ _, q2⟩
  · rename_i t j y l hb
    simp only [cond_eq_ite, Bool.and_eq_true, nat_beq] at h
    split at h
    rotate_left
    · cases h
    rename_i hc; obtain ⟨rfl, rfl⟩ := hc
    simp at h; obtain ⟨rfl, rfl⟩ := h
    have hxe := ptr_own hx hb
    subst hxe
    obtain ⟨cs, g1, g2, g3, g4⟩ := hw.cells j t _ hb
    have c0 : cs[0]? = some (.pointer (some ⟨C.be j, 0, none⟩)) := by
      obtain ⟨u, u1, u2, _⟩ := g4 0 (by simp)
      simp only [List.getElem_cons_zero] at u2
      rw [ptr_own u2 hb] at u1
      exact u1
    refine gets_enter (hent _ w) ((hB.used (C.be j) w (by simp [World.cell?, g1, c0])).mono ?_)
    rintro _ w' ⟨rfl, rfl⟩
    exact ⟨_, rfl, C, Ext.refl _ _, vrel_undef _ _, hw⟩
  · cases h

theorem bytesOf_rel : ∀ {l : List PV} {bs : List Nat}, bytesOf l = some bs → bs.length = l.length ∧ (∀ b ∈ bs, b < 256) ∧ ∀ (j b : Nat), bs[j]? = some b → l[j]? = some (PV.int .u8 (Int.ofNat b))
  | [], bs, h => by simp [bytesOf] at h; subst h; exact ⟨rfl, fun b hb => (by cases hb), fun j b hb => by simp at hb⟩
  | p :: l, bs, h => by
    unfold bytesOf at h
    split at h
    · rename_i hh; cases hh
    · rename_i n r hh
      injection hh with hh1 hh2
      subst hh1; subst hh2
      simp only [cond_eq_ite, Nat.blt_eq] at h
      split at h
      · rename_i hn
        cases hq : bytesOf l with
        | none => rw [hq] at h; cases h
        | some bs' =>
          rw [hq] at h
          simp at h; subst h
          obtain ⟨h1, h2, h3⟩ := bytesOf_rel hq
          refine ⟨by simp [h1], fun b hb => ?_, fun j b hb => ?_⟩
          · rcases List.mem_cons.1 hb with rfl | hb
            · exact hn
            · exact h2 b hb
          · cases j with
            | zero => simp at hb; subst hb; rfl
            | succ j => simpa using h3 j b (by simpa using hb)
      · cases h
    · cases h

/-- What held the newest value of a lineage is let go. -/
theorem WRel.letgo (h : WRel C S w0 N w) {γ : Nat} {w' : World} (hs : w.heap.size ≤ w'.heap.size) {len e' : Nat} (hγ : S.fr[γ]? = some (some (len, e'))) {b n cap : Nat} (hep : C.ep γ = .slice (some ⟨b, 0, none⟩) n cap)
    (hh : ∀ k, k ≠ b → w'.heap[k]? = w.heap[k]?) (hc : ∀ k, w'.cell? ⟨b, k, none⟩ = w.cell? ⟨b, k, none⟩) (hst : Still w w') :
    Ext C S C ⟨S.bx, S.fr.set γ none⟩ ∧ WRel C ⟨S.bx, S.fr.set γ none⟩ w0 N w' := by
  have hγl : γ < S.fr.length := by
    rcases Nat.lt_or_ge γ S.fr.length with h' | h'
    · exact h'
    · simp [h'] at hγ
  have old : ∀ γ' x, (S.fr.set γ none)[γ']? = some (some x) → γ' ≠ γ ∧ S.fr[γ']? = some (some x) := by
    intro γ' x hx
    by_cases e : γ = γ'
    · subst e; simp [hγl] at hx
    · exact ⟨fun e' => e e'.symm, by simpa [List.getElem?_set_ne e] using hx⟩
  have x : Ext C S C ⟨S.bx, S.fr.set γ none⟩ := by
    refine ⟨SgLe.refl _, fun i b hb hh => ⟨b, hb, hh, fun hl => ⟨hl, rfl, rfl⟩⟩, fun γ' hγ' => ⟨by simpa using hγ', fun len e he => ?_⟩, Nat.le_refl _, fun _ h => h, fun _ _ h => h⟩
    exact ⟨len, (old _ _ he).2, Nat.le_refl _, fun _ => rfl⟩
  obtain ⟨b1, n1, cap1, sz1, cur1, q1, q2, q3, q4, q5, q6, q7, q8⟩ := h.ids γ len e' hγ
  rw [hep] at q1; cases q1
  have ne : ∀ i y, S.bx[i]? = some y → y.own = true → C.be i ≠ b := q8
  refine ⟨x, ⟨?_, ?_, ?_, ?_, h.inj, h.sep, ?_, ?_, Nat.le_trans h.size hs, ?_, h.ownN, ?_, h.known, h.hole, h.still.trans hst⟩⟩
  · intro b1 k v hv
    by_cases e : b1 = b
    · subst e; rw [hc]; exact h.sg _ _ _ hv
    · exact (cell_heap (hh b1 e)).trans (h.sg _ _ _ hv)
  · intro i t l hb
    obtain ⟨vs, g1, g2, g3, g4⟩ := h.cells i t l hb
    exact ⟨vs, (hh _ (ne i _ hb rfl)).trans g1, g2, g3, g4.mono x⟩
  · intro i l hb
    obtain ⟨g0, vs, t, fz, g1, g2, g3, g4⟩ := h.ro i l hb
    exact ⟨g0, vs, t, fz, g1, g2, g3, g4.mono x⟩
  · intro i l pos hb
    obtain ⟨s, g1, g2⟩ := h.iter i l pos hb
    exact ⟨s, (hh _ (ne i _ hb rfl)).trans g1, g2⟩
  · intro γ' len e he
    obtain ⟨hne, he'⟩ := old _ _ he
    obtain ⟨b2, n2, cap2, sz2, cur2, r1, r2, r3⟩ := h.ids γ' len e he'
    refine ⟨b2, n2, cap2, sz2, cur2, r1, (hh b2 fun e2 => hne (h.idinj γ' γ _ _ b2 b 0 0 _ _ _ _ he' hγ r1 hep e2)).trans r2, r3⟩
  · intro γ1 γ2 y y' b1 b2 o o' n1 n2 c1 c2 h1 h2 h3 h4 h5
    exact h.idinj γ1 γ2 y y' b1 b2 o o' n1 n2 c1 c2 (old _ _ h1).2 (old _ _ h2).2 h3 h4 h5
  · intro b1 hb1 hN
    refine (hh b1 fun e => ?_).trans (h.keep b1 hb1 hN)
    subst e
    rcases h.idN γ _ _ _ _ _ hγ hep with h' | h'
    · exact hN h'
    · omega
  · intro γ' y b1 o n1 c1 h1 h2
    exact h.idN γ' y b1 o n1 c1 (old _ _ h1).2 h2

theorem primStr_ok (hB : BuilderOk P T e fc fs fg) : CallOK P E (fun g args S => if g = fs then primStr T e args S else none) := by
  intro g args S r S' h C w0 N w vs hg hw ha
  dsimp only at h
  split at h
  rotate_left
  · cases h
  rename_i hgf; subst hgf
  have hent := hB.enter g (.inr (.inl rfl))
  unfold primStr at h
  split at h
  rotate_left
  · cases h
  rename_i i
  obtain ⟨x, rfl, hx⟩ := args1 ha
  split at h
  · rename_i t y l hb
    simp only [cond_eq_ite, nat_beq] at h
    split at h
    rotate_left
    · cases h
    simp at h; obtain ⟨rfl, rfl⟩ := h
    have hxe := ptr_own hx hb
    subst hxe
    obtain ⟨cs, g1, g2, g3, g4⟩ := hw.cells i t _ hb
    have c1 : cs[1]? = some (.slice none 0 0) := by
      obtain ⟨u, u1, u2, _⟩ := g4 1 (by simp)
      simp only [List.getElem_cons_succ, List.getElem_cons_zero] at u2
      rw [nilslice_inv u2] at u1; exact u1
    refine gets_enter (hent _ w) ((hB.str0 (C.be i) w (by simp [World.cell?, g1, c1])).mono ?_)
    rintro _ w' ⟨rfl, hw', hst⟩
    exact ⟨_, rfl, C, Ext.refl _ _, .clean _ _ (.str .empty), hw.same (by rw [hw']; exact Nat.le_refl _) (fun b _ => by rw [hw']) hst⟩
  · rename_i t y γ n cells l hb
    split at h
    rotate_left
    · cases h
    rename_i len e' bs hγ hbs
    simp only [cond_eq_ite, Bool.and_eq_true, nat_beq, Nat.blt_eq] at h
    split at h
    rotate_left
    · cases h
    rename_i hc
    obtain ⟨rfl, rfl, rfl, rfl, hn0⟩ := hc
    simp at h; obtain ⟨rfl, rfl⟩ := h
    have hxe := ptr_own hx hb
    subst hxe
    obtain ⟨cs, g1, g2, g3, g4⟩ := hw.cells i t _ hb
    obtain ⟨u, u1, u2, _⟩ := g4 1 (by simp)
    simp only [List.getElem_cons_succ, List.getElem_cons_zero] at u2
    obtain ⟨b1, n1, cap1, sz1, cur1, q1, q2, q3, q4, q5, q6, q7, q8⟩ := hw.ids γ cells.length e' hγ
    cases u2 with
    | clean _ _ u2 => cases u2
    | sid _ _ _ b o cap vs _ hn ho hs hcc ht =>
      have hep := (ht _ _ hγ).2 rfl
      rw [q1] at hep; cases hep
      obtain ⟨b1l, b2l, b3l⟩ := bytesOf_rel hbs
      have hz1 : sz1 = 1 := by
        have h1 : cells.length * 1 = cells.length * sz1 := by simpa using q6.1
        exact (Nat.eq_of_mul_eq_mul_left hn0 h1).symm
      subst hz1
      have hlen : (bs.map Nat.toUInt8).length = cells.length := by simp [b1l]
      have hcur : ∀ (j : Nat) (x : UInt8), (bs.map Nat.toUInt8)[j]? = some x → cur1[j]? = some (Value.int .u8 x.toNat) := by
        intro j x hx
        rw [List.getElem?_map] at hx
        cases hbj : bs[j]? with
        | none => rw [hbj] at hx; cases hx
        | some y =>
          rw [hbj] at hx
          simp at hx; subst hx
          have hy : y < 256 := b2l y (List.mem_of_getElem? hbj)
          have hcj := b3l j y hbj
          have hjl : j < cells.length := by
            rcases Nat.lt_or_ge j cells.length with h' | h'
            · exact h'
            · simp [h'] at hcj
          have h1 := hw.sg _ _ _ (hs j hjl)
          have h2 := hcc j hjl
          have h3 : cells[j] = .int .u8 y := by simpa [hjl] using hcj
          rw [h3] at h2
          generalize vs j = vj at h1 h2
          cases h2
          simp [World.cell?, q2] at h1
          have : (Nat.toUInt8 y).toNat = y := by simp [Nat.toUInt8, UInt8.toNat_ofNat', Nat.mod_eq_of_lt hy]
          rw [this]; exact h1
      refine gets_enter (hent _ w) ((hB.str (C.be i) b1 cap1 cur1 (bs.map Nat.toUInt8) w ?_ q2 ?_ (by rw [hlen]; exact hn) q4 (by omega) hcur).mono ?_)
      · rw [hlen]; simp [World.cell?, g1]; exact u1
      · intro h0
        have := congrArg List.length h0
        rw [hlen] at this; simp at this; rw [this] at hn0; simp at hn0
      · rintro _ w' ⟨rfl, hw', hst⟩
        have hfz : ∀ k, k ≠ b1 → (w.freeze ⟨b1, 0, none⟩ (bs.map Nat.toUInt8).length).heap[k]? = w.heap[k]? := by
          intro k hk
          unfold World.freeze
          split
          · rfl
          · simp [Array.getElem?_modify, Ne.symm hk]
        have hfb : ∃ fz, (w.freeze ⟨b1, 0, none⟩ (bs.map Nat.toUInt8).length).heap[b1]? = some (.cells cur1 e' fz) := by
          unfold World.freeze
          split
          · exact ⟨_, q2⟩
          · exact ⟨_, by simp [Array.getElem?_modify, q2]; rfl⟩
        obtain ⟨fz, hfb⟩ := hfb
        obtain ⟨r1, r2⟩ := hw.letgo (w' := w') (by rw [hw']; unfold World.freeze; split <;> simp) hγ q1 (fun k hk => by rw [hw']; exact hfz k hk) (fun k => by
          simp only [World.cell?, hw', hfb, q2]) hst
        refine ⟨_, rfl, C, r1, .clean _ _ ?_, r2⟩
        have : bytesL ⟨(bs.map Nat.toUInt8).toArray⟩ = bs := by
          simp only [bytesL, List.map_map]
          conv => rhs; rw [← List.map_id bs]
          refine List.map_congr_left fun y hy => ?_
          simp [Nat.toUInt8, UInt8.toNat_ofNat', Nat.mod_eq_of_lt (b2l y hy)]
        conv => arg 2; rw [← this]
        exact .str _
  · cases h

theorem alloc_get (w : World) (o : Obj) (k : Nat) : (w.alloc o).heap[k]? = if k = w.heap.size then some o else w.heap[k]? := by
  simp only [World.alloc, Array.getElem?_push]

theorem primGrow_ok (hB : BuilderOk P T e fc fs fg) : CallOK P E (fun g args S => if g = fg then primGrow T e args S else none) := by
  intro g args S r S' h C w0 N w vs hg hw ha
  dsimp only at h
  split at h
  rotate_left
  · cases h
  rename_i hgf; subst hgf
  have hent := hB.enter g (.inr (.inr rfl))
  unfold primGrow at h
  split at h
  rotate_left
  · cases h
  rename_i i n
  obtain ⟨x, y, rfl, hx, hy⟩ := args2 ha
  have hyv : y = .int .i64 n := by
    cases hy with
    | clean _ _ hy => cases hy; rfl
  subst hyv
  split at h
  rotate_left
  · cases h
  rename_i t l hb
  simp only [cond_eq_ite, Bool.and_eq_true, nat_beq, Nat.blt_eq, Nat.ble_eq] at h
  split at h
  rotate_left
  · cases h
  rename_i hc
  obtain ⟨rfl, hn0, hn1⟩ := hc
  simp at h; obtain ⟨rfl, rfl⟩ := h
  have hxe := ptr_own hx hb
  subst hxe
  obtain ⟨vs, g1, g2, g3, g4⟩ := hw.cells i t _ hb
  have c0 : vs[0]? = some (.pointer none) := by
    obtain ⟨u, u1, u2, _⟩ := g4 0 (by simp)
    simp only [List.getElem_cons_zero] at u2
    cases u2 with
    | clean _ _ u2 => cases u2; exact u1
  have c1 : vs[1]? = some (.slice none 0 0) := by
    obtain ⟨u, u1, u2, _⟩ := g4 1 (by simp)
    simp only [List.getElem_cons_succ, List.getElem_cons_zero] at u2
    rw [nilslice_inv u2] at u1; exact u1
  simp only [List.length_cons] at g2
  refine gets_enter (hent _ w) ((hB.grow (C.be i) n vs w g1 (by omega) c0 c1 hn0 hn1).mono ?_)
  rintro _ w' ⟨rfl, cs, k1, k2, hw', hst⟩
  have hlt := heap_lt g1
  have hfree : Free C S w0 N w.heap.size := hw.free_new
  obtain ⟨x1, W1, v1⟩ := lineage (hw.alloc (.cells cs e)) (γ := S.fr.length) (cells := []) (fr' := S.fr ++ [some (0, e)]) (sz := 1) (n := 0) (cap := cs.size) (e := e) (heap_new w _) (Nat.zero_le _) k2 (by simp) rfl (.inr rfl) hfree.base hfree.box (fun k _ => hfree.sg k)
    (fun γ' x' b o n' c' _ h1 h2 => hfree.id γ' x' b o n' c' h1 h2) (by simp) (fun γ' hne => by
      rcases Nat.lt_or_ge γ' S.fr.length with h' | h'
      · simp [List.getElem?_append_left h']
      · rw [List.getElem?_append_right h', List.getElem?_eq_none h']; simp; omega) (by simp) (fun l0 e0 h' => by simp at h') (by simp) (fun k hk => by cases hk)
  generalize C.grow S.fr.length w.heap.size cs ([] : List PV).length (.slice (some ⟨w.heap.size, 0, none⟩) 0 cs.size) = C1 at x1 W1 v1
  have hbe : C1.be i = C.be i := by
    obtain ⟨b', e1, e2, e3⟩ := x1.bx i _ hb rfl
    simp only at e1
    rw [hb] at e1; cases e1
    exact (e3 rfl).2.1
  obtain ⟨vs2, g1', g2', g3', g4'⟩ := W1.cells i t _ hb
  rw [hbe] at g1'
  have hsame : vs2 = vs := by
    rw [alloc_get, if_neg (by omega), g1] at g1'
    simp at g1'; exact g1'.symm
  subst hsame
  have hs1 : (w.setCell ⟨C.be i, 0, none⟩ (.pointer (some ⟨C.be i, 0, none⟩))).heap[C.be i]? = some (.cells (vs2.setIfInBounds 0 (.pointer (some ⟨C.be i, 0, none⟩))) t (0, 0)) := setCell_heap g1 _
  have hget : w'.heap[C1.be i]? = some (.cells ((vs2.setIfInBounds 0 (.pointer (some ⟨C.be i, 0, none⟩))).setIfInBounds 1 (.slice (some ⟨w.heap.size, 0, none⟩) 0 cs.size)) t (0, 0)) := by
    rw [hbe, hw']
    refine setCell_heap ?_ _
    rw [alloc_get, setCell_size, if_neg (by omega)]
    exact hs1
  have hoth : ∀ k, k ≠ C1.be i → w'.heap[k]? = (w.alloc (.cells cs e)).heap[k]? := by
    intro k hk
    rw [hbe] at hk
    rw [hw', setCell_other _ hk, alloc_get, alloc_get, setCell_size, setCell_other _ hk]
  have hv : VRel C1 ⟨S.bx, S.fr ++ [some (0, e)]⟩ (.ptr i 0) (.pointer (some ⟨C.be i, 0, none⟩)) := hx.mono x1
  have hr := reads_set (k := 1) (p := .slice (.id S.fr.length) 0 []) (reads_set (k := 0) (p := .ptr i 0) g4' (by simp) (by simp; omega) hv rfl) (by simp) (by simp; omega) v1 rfl
  obtain ⟨q1, q2⟩ := W1.rewrite (b' := .cells t (.ptr i 0 :: .slice (.id S.fr.length) 0 [] :: l)) hb rfl rfl (w' := w') (by rw [hw', setCell_size]; show (w.heap.push _).size ≤ ((World.setCell w _ _).heap.push _).size; simp [setCell_size])
    (fun k hk _ => hoth k hk) (fun t' l' he => by
      cases he
      exact ⟨_, hget, by simp; omega, by simpa using g3', by simpa using hr⟩) (fun l' pos he => by cases he) hst
  exact ⟨_, rfl, C1, x1.trans q1, vrel_undef _ _, q2⟩

end
end Go.Am

/- Functions of Go's library without a body of their own, told to the machine. No condition. -/
namespace Go.Am

def indexL : List Nat → Nat → Nat → Int
  | [], _, _ => -1
  | b :: r, c, k => bif Nat.beq b c then .ofNat k else indexL r c (k + 1)

def primIndexByte : List PV → St → Option (PV × St)
  | [.str l, .int .u8 (.ofNat c)], S => bif Nat.blt c 256 then some (.int .i64 (indexL l c 0), S) else none
  | _, _ => none

def primAdd64 : List PV → St → Option (PV × St)
  | [.int .u64 (.ofNat x), .int .u64 (.ofNat y), .int .u64 (.ofNat c)], S => bif Nat.ble c 1 then
      some (.tup [.int .u64 (.ofNat ((x + y + c) % 18446744073709551616)), .int .u64 (.ofNat ((x + y + c) / 18446744073709551616))], S) else none
  | _, _ => none

theorem indexL_ge : ∀ (l : List Nat) (c k : Nat), indexL l c k = -1 ∨ (k : Int) ≤ indexL l c k
  | [], c, k => .inl rfl
  | b :: r, c, k => by
    unfold indexL
    cases Nat.beq b c with
    | true => exact .inr (Int.le_refl _)
    | false =>
      simp only [cond_false]
      rcases indexL_ge r c (k + 1) with h | h
      · exact .inl h
      · exact .inr (by omega)

theorem indexL_eq : ∀ (l : List UInt8) (c : Nat), c < 256 → ∀ k, indexL (l.map UInt8.toNat) c k = if Lib.indexByte l c.toUInt8 = -1 then -1 else Lib.indexByte l c.toUInt8 + k
  | [], c, _, k => by simp [indexL, Lib.indexByte]
  | b :: l, c, hc, k => by
    have ih := indexL_eq l c hc (k + 1)
    have hge := Lib.indexByte_ge l c.toUInt8
    have hbc : Nat.beq b.toNat c = (b == c.toUInt8) := by
      have h1 : c.toUInt8.toNat = c := by simp [Nat.toUInt8, UInt8.toNat_ofNat', Nat.mod_eq_of_lt hc]
      by_cases e : b = c.toUInt8
      · subst e; simp [h1, Nat.beq_refl]
      · have : b.toNat ≠ c := fun h => e (by rw [← UInt8.toNat_inj, h1]; exact h)
        have h2 : Nat.beq b.toNat c = false := by rw [Bool.eq_false_iff]; intro h; exact this (Nat.eq_of_beq_eq_true h)
        rw [h2]; simp [e]
    simp only [List.map_cons, indexL, hbc]
    unfold Lib.indexByte
    cases hb : (b == c.toUInt8) with
    | true => simp
    | false =>
      simp only [cond_false, Bool.false_eq_true, if_false]
      rw [ih]
      by_cases h1 : Lib.indexByte l c.toUInt8 = -1
      · simp [h1]
      · simp only [h1, if_false, beq_iff_eq]
        rw [if_neg (by omega)]
        omega

section
variable {P : Program} {E : Env}

theorem primIndexByte_ok {f : Nat} {fn : Func} (hf : P.funcs[f]? = some fn) (h1 : (fn.name == "runtime.NumGoroutine") = false) (h2 : fn.body.isNone = true) (h3 : Extern.findNext fn = none)
    (h4 : Extern.find fn = some Extern.BytealgIndexByte.indexByte) : CallOK P E (fun g args S => if g = f then primIndexByte args S else none) := by
  intro g args S r S' h C w0 N w vs hg hw ha
  dsimp only at h
  split at h
  rotate_left
  · cases h
  rename_i hgf; subst hgf
  unfold primIndexByte at h
  split at h
  rotate_left
  · cases h
  rename_i l c
  obtain ⟨x, y, rfl, hx, hy⟩ := args2 ha
  have hyv : y = .int .u8 c := by
    cases hy with
    | clean _ _ hy => cases hy; rfl
  subst hyv
  obtain ⟨s, rfl, rfl⟩ := str_inv hx
  simp only [cond_eq_ite, Nat.blt_eq] at h
  split at h
  rotate_left
  · cases h
  rename_i hc
  simp at h; obtain ⟨rfl, rfl⟩ := h
  rw [run_callFunc_extern hf h1 h2 h3 h4, Lib.run_indexByteString]
  refine ⟨C, Ext.refl _ _, ?_, hw⟩
  have : indexL (bytesL s) c 0 = Lib.indexByte s.data.toList (Int.toNat (c : Int)).toUInt8 := by
    unfold bytesL
    rw [indexL_eq _ c hc 0]
    simp only [Int.toNat_natCast, Int.ofNat_zero, Int.add_zero]
    split
    · rename_i h; exact h.symm
    · simp
  rw [this]
  exact .clean _ _ (.int _ _)

theorem primAdd64_ok {f : Nat} {fn : Func} (hf : P.funcs[f]? = some fn) (h1 : (fn.name == "runtime.NumGoroutine") = false) (h2 : fn.body.isNone = true) (h3 : Extern.findNext fn = none)
    (h4 : Extern.find fn = some add64Entry) : CallOK P E (fun g args S => if g = f then primAdd64 args S else none) := by
  intro g args S r S' h C w0 N w vs hg hw ha
  dsimp only at h
  split at h
  rotate_left
  · cases h
  rename_i hgf; subst hgf
  unfold primAdd64 at h
  split at h
  rotate_left
  · cases h
  rename_i x y c
  obtain ⟨q1, q2⟩ := ha
  have hvs : vs = #[.int .u64 x, .int .u64 y, .int .u64 c] := by
    have e0 := q2 0 (by simp) (by rw [← q1]; simp)
    have e1 := q2 1 (by simp) (by rw [← q1]; simp)
    have e2 := q2 2 (by simp) (by rw [← q1]; simp)
    have one : ∀ (n : Nat) (u : Value), VRel C S (.int .u64 (.ofNat n)) u → u = .int .u64 n := by
      intro n u hu
      cases hu with
      | clean _ _ hu => cases hu; rfl
    have h0 := one x _ e0
    have h1 := one y _ e1
    have h2 := one c _ e2
    apply Array.ext
    · rw [← q1]; rfl
    · intro i hi hi'
      simp at hi'
      match i, hi' with
      | 0, _ => exact h0
      | 1, _ => exact h1
      | 2, _ => exact h2
  subst hvs
  simp only [cond_eq_ite, Nat.ble_eq] at h
  split at h
  rotate_left
  · cases h
  rename_i hc
  simp at h; obtain ⟨rfl, rfl⟩ := h
  rw [run_callFunc_extern hf h1 h2 h3 h4, run_add64 _ _ _ (by omega) (by omega) (by omega) (by omega)]
  refine ⟨C, Ext.refl _ _, .clean _ _ ?_, hw⟩
  refine .tup _ _ (fun i => if i = 0 then .int .u64 ((x + y + c : Int) % 18446744073709551616) else .int .u64 ((x + y + c : Int) / 18446744073709551616)) rfl (fun i hi => ?_) (fun i hi => ?_)
  · simp at hi
    match i, hi with
    | 0, _ => rfl
    | 1, _ => rfl
  · simp at hi
    match i, hi with
    | 0, _ => exact .int _ _
    | 1, _ => exact .int _ _

end
end Go.Am

/- Closed calls that are known already are looked up. No condition. -/
namespace Go.Am

def eqL (f : PV → PV → Bool) : List PV → List PV → Bool
  | [], [] => true
  | a :: x, b :: y => eqL f x y && f a b
  | _, _ => false

/-- The same value? (true: surely) -/
def pvEq : Nat → PV → PV → Bool
  | 0, _, _ => false
  | n + 1, a, b =>
    match a, b with
    | .int k x, .int k' y => kindEq k k' && x == y
    | .bool x, .bool y => x == y
    | .str x, .str y => listEq x y
    | .nilptr, .nilptr => true
    | .nilslice, .nilslice => true
    | .niliface, .niliface => true
    | .nilfunc, .nilfunc => true
    | .slice .sh m x, .slice .sh m' y => Nat.beq m m' && eqL (pvEq n) x y
    | .agg x, .agg y => eqL (pvEq n) x y
    | .iface t x, .iface t' y => Nat.beq t t' && pvEq n x y
    | .imm o x, .imm o' y => Nat.beq o o' && eqL (pvEq n) x y
    | _, _ => false

theorem kindEq_spec {k k' : IntKind} (h : kindEq k k' = true) : k = k' := by
  cases k <;> cases k' <;> first | rfl | cases h

theorem listEq_spec : ∀ {a b : List Nat}, listEq a b = true → a = b
  | [], [], _ => rfl
  | x :: a, y :: b, h => by
    simp only [listEq, Bool.and_eq_true, nat_beq] at h
    rw [h.1, listEq_spec h.2]

theorem eqL_spec {f : PV → PV → Bool} (hf : ∀ a b, f a b = true → a = b) : ∀ {a b : List PV}, eqL f a b = true → a = b
  | [], [], _ => rfl
  | x :: a, y :: b, h => by
    simp only [eqL, Bool.and_eq_true] at h
    rw [hf _ _ h.2, eqL_spec hf h.1]

theorem pvEq_spec : ∀ (n : Nat) (a b : PV), pvEq n a b = true → a = b
  | 0, _, _, h => by cases h
  | n + 1, a, b, h => by
    have ih := pvEq_spec n
    unfold pvEq at h
    split at h
    · simp only [Bool.and_eq_true, beq_iff_eq] at h; rw [kindEq_spec h.1, h.2]
    · simp only [beq_iff_eq] at h; rw [h]
    · rw [listEq_spec h]
    · rfl
    · rfl
    · rfl
    · rfl
    · simp only [Bool.and_eq_true, nat_beq] at h; rw [h.1, eqL_spec ih h.2]
    · rw [eqL_spec ih h]
    · simp only [Bool.and_eq_true, nat_beq] at h; rw [h.1, ih _ _ h.2]
    · simp only [Bool.and_eq_true, nat_beq] at h; rw [h.1, eqL_spec ih h.2]
    · cases h

/-- What is known: of each function, of which arguments, what comes. -/
abbrev Memo := Nat → List (List PV × PV)

def lookM : List (List PV × PV) → List PV → Option PV
  | [], _ => none
  | (a, v) :: r, args => bif eqL (pvEq 12) a args then some v else lookM r args

/-- What is known of calls. -/
abbrev Known := Nat → List PV → Option PV

def tabK (T : Memo) : Known := fun f args => lookM (T f) args

def orK (A B : Known) : Known := fun f args => match A f args with
  | some v => some v
  | none => B f args

/-- Runs that look up what is known. -/
def runsM (E : Env) (T : Known) (n : Nat) : Runs :=
  Nat.rec ⟨fun _ _ _ => none, fun _ _ _ => none⟩
    (fun _ R => ⟨fun hp => execStep E R.call hp (R.code hp), fun f args S => match T f args with
      | some v => some (v, S)
      | none => callStep E (enterStep E R.code) f args S⟩) n

/-- All that is known is so. -/
def KnownOk (E : Env) (T : Known) : Prop := ∀ f a v, T f a = some v → ∀ S, callW E f a S = some (v, S)

/-- All that a table tells is so. -/
def MemoOk (E : Env) (T : Memo) : Prop := ∀ f a v, (a, v) ∈ T f → ∀ S, callW E f a S = some (v, S)

theorem lookM_mem : ∀ {l : List (List PV × PV)} {args : List PV} {v : PV}, lookM l args = some v → (args, v) ∈ l
  | [], _, _, h => by cases h
  | (a, u) :: r, args, v, h => by
    simp only [lookM, cond_eq_ite] at h
    split at h
    · rename_i he
      simp at h; subst h
      rw [eqL_spec (pvEq_spec 12) he]; simp
    · exact List.mem_cons_of_mem _ (lookM_mem h)

section
variable {E : Env}

theorem tabK_ok {T : Memo} (hT : MemoOk E T) : KnownOk E (tabK T) := fun f a v h => hT f a v (lookM_mem h)

theorem orK_ok {A B : Known} (hA : KnownOk E A) (hB : KnownOk E B) : KnownOk E (orK A B) := by
  intro f a v h
  unfold orK at h
  split at h
  · rename_i u hu
    cases h; exact hA f a _ hu
  · exact hB f a v h

theorem runsM_le {T : Known} (hT : KnownOk E T) : ∀ n, LeC (runsM E T n).call (callW E) ∧ LeK (runsM E T n).code (codeW E)
  | 0 => ⟨fun f args S r h => (by cases h), fun hp c F r h => (by cases h)⟩
  | n + 1 => by
    obtain ⟨h1, h2⟩ := runsM_le hT n
    refine ⟨fun f args S r h => ?_, fun hp c F r h => ?_⟩
    · replace h : (match T f args with
        | some v => some (v, S)
        | none => callStep E (enterStep E (runsM E T n).code) f args S) = some r := h
      split at h
      · rename_i v hv
        rw [hT f args v hv S]; exact h
      · rw [callW_eq]
        exact callStep_mono (enterStep_mono h2) _ _ _ _ h
    · rw [codeW_eq]
      exact execStep_mono h1 (h2 hp) h

/-- What a call with nothing of one's own comes to has nothing to do with the state. -/
theorem callW_any {f : Nat} {args : List PV} {S0 S0' : St} {v : PV} (hr : E.raw f = false) (hc : (mapO clean args).isSome = true) (h : callW E f args S0 = some (v, S0')) (S : St) : callW E f args S = some (v, S) := by
  obtain ⟨a, ha⟩ := Option.isSome_iff_exists.1 hc
  rw [callW_eq] at h ⊢
  unfold callStep at h ⊢
  simp only [hr, cond_false, ha] at h ⊢
  split at h
  · rename_i v1 S1 h1
    split at h
    · rename_i v2 h2
      simp at h
      simp only [h2, Option.some.injEq, Prod.mk.injEq, and_true]
      exact h.1
    · cases h
  · cases h

theorem memo_of {T : Known} (hT : KnownOk E T) {n f : Nat} {args : List PV} {v : PV} (hr : E.raw f = false) (hc : (mapO clean args).isSome = true) (h : (runsM E T n).call f args St.empty = some (v, St.empty)) : ∀ S, callW E f args S = some (v, S) :=
  callW_any hr hc ((runsM_le hT n).1 _ _ _ _ h)

theorem memo_none : MemoOk E (fun _ => []) := fun _ _ _ h => by cases h

theorem known_none : KnownOk E (fun _ _ => none) := fun _ _ _ h => by cases h

/-- All of a list of calls of one function. -/
def AllM (E : Env) (g : Nat) : List (List PV × PV) → Prop
  | [] => True
  | (a, v) :: r => (∀ S, callW E g a S = some (v, S)) ∧ AllM E g r

theorem allM_mem {g : Nat} : ∀ {l : List (List PV × PV)}, AllM E g l → ∀ a v, (a, v) ∈ l → ∀ S, callW E g a S = some (v, S)
  | [], _, _, _, h => by cases h
  | (b, u) :: r, h, a, v, hm => by
    rcases List.mem_cons.1 hm with h' | h'
    · cases h'; exact h.1
    · exact allM_mem h.2 a v h'

theorem memo_set {T : Memo} {g : Nat} {l : List (List PV × PV)} (hT : MemoOk E T) (h : AllM E g l) : MemoOk E (fun f => bif Nat.beq f g then l else T f) := by
  intro f a v hm S
  simp only [cond_eq_ite, nat_beq] at hm
  split at hm
  · rename_i e
    subst e
    exact allM_mem h a v hm S
  · exact hT _ _ _ hm S

end
end Go.Am
