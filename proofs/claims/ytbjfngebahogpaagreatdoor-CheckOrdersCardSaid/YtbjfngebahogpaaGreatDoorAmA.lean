/- An abstract machine for the model's code: pure values, boxes, lineages of appended rows. No condition. -/
import Derived.Orders
import Derived.Laws.AppendOwn
import Derived.Defers
import Derived.WalkKit
namespace Go.Am

inductive SK where
  | sh | full | id (g : Nat)
  deriving Inhabited

/-- Values of the abstract machine. -/
inductive PV where
  | int (k : IntKind) (n : Int)
  | bool (b : Bool)
  | str (l : List Nat)
  | nilptr
  | nilslice
  | niliface
  | nilfunc
  | slice (k : SK) (n : Nat) (cells : List PV)
  | agg (cells : List PV)
  | tup (vs : List PV)
  | iface (t : Nat) (v : PV)
  | func (f : Nat) (first cap : List PV)
  | ptr (i off : Nat)
  | ms (i off n w : Nat)
  | imm (off : Nat) (cells : List PV)
  deriving Inhabited

def undef : PV := .tup []

def PV.cells : PV → List PV
  | .agg cs => cs
  | v => [v]

/-- May it stand in one cell? -/
def PV.one : PV → Bool
  | .agg _ => false
  | .tup _ => false
  | _ => true

/-- May it stand in cells at all? -/
def PV.flat : PV → Bool
  | .tup _ => false
  | _ => true

/-- What lies in memory of one's own: cells of a type, a range's place, a place kept for what comes, nothing any more, what is elsewhere for now. -/
inductive Box where
  | cells (t : Nat) (l : List PV)
  | ro (l : List PV)
  | iter (s : List Nat) (pos : Nat)
  | hole
  | dead
  | away
  deriving Inhabited

/-- Boxes, and the lineages' fronts (how many cells, of which element type). -/
structure St where
  bx : List Box
  fr : List (Option (Nat × Nat))

def St.empty : St := ⟨[], []⟩

inductive TK where
  | int (k : IntKind) | bool | str | ptr (e : Nat) | unsafep | slice (e : Nat) | arr (n e : Nat)
  | struct (fs : List (Nat × Nat)) | iface (ms : Nat) | func | tuple | other
  deriving Inhabited

structure TI where
  kind : TK
  size : Nat
  bytes : Nat
  zero : List PV
  cmp : Bool
  eqg : Bool
  deriving Inhabited

def TK.agg : TK → Bool
  | .struct _ => true
  | .arr _ _ => true
  | _ => false

def TI.agg (t : TI) : Bool := t.kind.agg

structure Env where
  tt : Nat → Option TI
  glob : Nat → Option (List PV)
  fn : Nat → Option Func
  prim : Nat → Option (List PV → St → Option (PV × St))
  raw : Nat → Bool
  ro : Nat → Bool
  heapy : Nat → Bool

def ok (b : Bool) : Option Unit := bif b then some () else none

def ofCell : Value → Option PV
  | .int k n => some (.int k n)
  | .bool b => some (.bool b)
  | .string s => some (.str (s.data.toList.map UInt8.toNat))
  | .pointer none => some .nilptr
  | .slice none 0 0 => some .nilslice
  | .nilIface => some .niliface
  | .nilFunc => some .nilfunc
  | _ => none

def ofCells : List Value → Option (List PV)
  | [] => some []
  | v :: r => match ofCell v, ofCells r with
    | some x, some y => some (x :: y)
    | _, _ => none

def ofValue : Value → Option PV
  | .agg cs => (ofCells cs.toList).map .agg
  | .tuple cs => (ofCells cs.toList).map .tup
  | v => ofCell v

/-- Registers. -/
inductive Regs where
  | e
  | n (l r : Regs) (v : PV)
  | f (g : Nat → PV)
  deriving Inhabited

def getT : Regs → Nat → PV
  | .e, _ => undef
  | .f g, k => g k
  | .n l r v, k => bif Nat.beq k 0 then v else bif Nat.beq (k % 2) 1 then getT l ((k - 1) / 2) else getT r ((k - 1) / 2)

def setT : Nat → Regs → Nat → PV → Regs
  | 0, r, _, _ => r
  | f + 1, .e, k, v => bif Nat.beq k 0 then .n .e .e v else bif Nat.beq (k % 2) 1 then .n (setT f .e ((k - 1) / 2) v) .e undef else .n .e (setT f .e ((k - 1) / 2) v) undef
  | f + 1, .f g, k, v => bif Nat.beq k 0 then .n (.f fun i => g (2 * i + 1)) (.f fun i => g (2 * i + 2)) v else
      bif Nat.beq (k % 2) 1 then .n (setT f (.f fun i => g (2 * i + 1)) ((k - 1) / 2) v) (.f fun i => g (2 * i + 2)) (g 0) else .n (.f fun i => g (2 * i + 1)) (setT f (.f fun i => g (2 * i + 2)) ((k - 1) / 2) v) (g 0)
  | f + 1, .n l r x, k, v => bif Nat.beq k 0 then .n l r v else bif Nat.beq (k % 2) 1 then .n (setT f l ((k - 1) / 2) v) r x else .n l (setT f r ((k - 1) / 2) v) x

def getR (t : Nat) (r : Regs) : PV := getT r t

def setR (t : Nat) (v : PV) (r : Regs) : Regs := setT 12 r t v

theorem getT_setT : ∀ (f : Nat) (r : Regs) (k j : Nat) (v : PV), k + 1 < 2 ^ f → getT (setT f r k v) j = if j = k then v else getT r j
  | 0, r, k, j, v, h => by simp at h
  | f + 1, r, k, j, v, h => by
    have hm : (k - 1) / 2 + 1 < 2 ^ f ∨ k = 0 := by
      rw [Nat.pow_succ] at h
      omega
    have beq : ∀ a b : Nat, Nat.beq a b = decide (a = b) := by
      intro a b
      by_cases e : a = b
      · subst e; simp
      · have : Nat.beq a b = false := by rw [Bool.eq_false_iff]; intro hh; exact e (Nat.eq_of_beq_eq_true hh)
        rw [this]; simp [e]
    cases r with
    | e =>
      simp only [setT, beq, cond_eq_ite, decide_eq_true_eq]
      by_cases hk : k = 0
      · subst hk
        simp only [if_true, getT, beq, cond_eq_ite, decide_eq_true_eq]
        by_cases hj : j = 0
        · simp [hj]
        · simp only [hj, if_false]; split <;> rfl
      · have ih := fun i => getT_setT f .e ((k - 1) / 2) i v (hm.resolve_right hk)
        simp only [hk, if_false]
        split
        · rename_i ho
          simp only [getT, beq, cond_eq_ite, decide_eq_true_eq]
          by_cases hj : j = 0
          · subst hj; rw [if_pos rfl, if_neg (fun e => hk e.symm)]
          · simp only [hj, if_false]
            split
            · rw [ih]
              simp only [getT]
              by_cases e : j = k
              · subst e; simp
              · rw [if_neg e, if_neg (by omega)]
            · rw [if_neg (by rintro rfl; omega)]
        · rename_i ho
          simp only [getT, beq, cond_eq_ite, decide_eq_true_eq]
          by_cases hj : j = 0
          · subst hj; rw [if_pos rfl, if_neg (fun e => hk e.symm)]
          · simp only [hj, if_false]
            split
            · rw [if_neg (by rintro rfl; omega)]
            · rw [ih]
              simp only [getT]
              by_cases e : j = k
              · subst e; simp
              · rw [if_neg e, if_neg (by omega)]
    | f g =>
      simp only [setT, beq, cond_eq_ite, decide_eq_true_eq]
      have split2 : ∀ j : Nat, j ≠ 0 → (if j % 2 = 1 then g (2 * ((j - 1) / 2) + 1) else g (2 * ((j - 1) / 2) + 2)) = g j := by
        intro j hj
        split
        · congr 1; omega
        · congr 1; omega
      by_cases hk : k = 0
      · subst hk
        simp only [if_true, getT, beq, cond_eq_ite, decide_eq_true_eq]
        by_cases hj : j = 0
        · simp [hj]
        · simp only [hj, if_false]; exact split2 j hj
      · simp only [hk, if_false]
        split
        · rename_i ho
          have ih := fun i => getT_setT f (.f fun i => g (2 * i + 1)) ((k - 1) / 2) i v (hm.resolve_right hk)
          simp only [getT, beq, cond_eq_ite, decide_eq_true_eq]
          by_cases hj : j = 0
          · subst hj; rw [if_pos rfl, if_neg (fun e => hk e.symm)]
          · simp only [hj, if_false]
            split
            · rw [ih]
              simp only [getT]
              by_cases e : j = k
              · subst e; simp
              · rw [if_neg e, if_neg (by omega)]; congr 1; omega
            · rw [if_neg (by rintro rfl; omega)]; congr 1; omega
        · rename_i ho
          have ih := fun i => getT_setT f (.f fun i => g (2 * i + 2)) ((k - 1) / 2) i v (hm.resolve_right hk)
          simp only [getT, beq, cond_eq_ite, decide_eq_true_eq]
          by_cases hj : j = 0
          · subst hj; rw [if_pos rfl, if_neg (fun e => hk e.symm)]
          · simp only [hj, if_false]
            split
            · rw [if_neg (by rintro rfl; omega)]; congr 1; omega
            · rw [ih]
              simp only [getT]
              by_cases e : j = k
              · subst e; simp
              · rw [if_neg e, if_neg (by omega)]; congr 1; omega
    | n l r x =>
      simp only [setT, beq, cond_eq_ite, decide_eq_true_eq]
      by_cases hk : k = 0
      · subst hk
        simp only [if_true, getT, beq, cond_eq_ite, decide_eq_true_eq]
        by_cases hj : j = 0
        · simp [hj]
        · simp [hj]
      · simp only [hk, if_false]
        split
        · rename_i ho
          have ih := fun i => getT_setT f l ((k - 1) / 2) i v (hm.resolve_right hk)
          simp only [getT, beq, cond_eq_ite, decide_eq_true_eq]
          by_cases hj : j = 0
          · subst hj; simp [Ne.symm hk]
          · simp only [hj, if_false]
            split
            · rw [ih]
              by_cases e : j = k
              · subst e; simp
              · rw [if_neg e, if_neg (by omega)]
            · rw [if_neg (by rintro rfl; omega)]
        · rename_i ho
          have ih := fun i => getT_setT f r ((k - 1) / 2) i v (hm.resolve_right hk)
          simp only [getT, beq, cond_eq_ite, decide_eq_true_eq]
          by_cases hj : j = 0
          · subst hj; simp [Ne.symm hk]
          · simp only [hj, if_false]
            split
            · rw [if_neg (by rintro rfl; omega)]
            · rw [ih]
              by_cases e : j = k
              · subst e; simp
              · rw [if_neg e, if_neg (by omega)]

theorem getR_setR {t : Nat} (h : t < 4000) (j : Nat) (v : PV) (r : Regs) : getR j (setR t v r) = if j = t then v else getR j r :=
  getT_setT 12 r t j v (by omega)

def evalO (E : Env) (regs : Regs) : Operand → Option PV
  | .tmp t => some (getR t regs)
  | .const v => ofValue v
  | .global g => (E.glob g).map (.imm 0)
  | .func f => some (.func f [] [])

/-- A map that may fail. -/
def mapO (f : PV → Option PV) : List PV → Option (List PV)
  | [] => some []
  | v :: r => match f v, mapO f r with
    | some x, some y => some (x :: y)
    | _, _ => none

/-- A value in which no box is named: boxes from B on become rows that never change; one below B may not be named. -/
def fz (B : Nat) (bx : List Box) : Nat → PV → Option PV
  | 0, _ => none
  | n + 1, v =>
    match v with
    | .ptr i off =>
      bif Nat.blt i B then none else
      match bx[i]? with
      | some (.cells _ l) => (mapO (fz B bx n) l).map (.imm off)
      | _ => none
    | .ms i off m w =>
      bif Nat.blt i B || Nat.beq m 0 then none else
      match bx[i]? with
      | some (.cells _ l) => bif Nat.ble (off + w) l.length then (mapO (fz B bx n) ((l.drop off).take w)).map (.slice .sh m) else none
      | _ => none
    | .slice _ m cells => some (.slice .sh m cells)
    | .agg cs => (mapO (fz B bx n) cs).map .agg
    | .tup vs => (mapO (fz B bx n) vs).map .tup
    | .func f a b => match mapO (fz B bx n) a, mapO (fz B bx n) b with
      | some a, some b => some (.func f a b)
      | _, _ => none
    | v => some v

/-- What a value is behind the end of the boxes from B on: boxes below B may be named. -/
def out (B : Nat) (bx : List Box) : Nat → PV → Option PV
  | 0, _ => none
  | n + 1, v =>
    match v with
    | .ptr i off => bif Nat.blt i B then some (.ptr i off) else fz B bx (n + 1) (.ptr i off)
    | .ms i off m w => bif Nat.blt i B then some (.ms i off m w) else fz B bx (n + 1) (.ms i off m w)
    | .agg cs => (mapO (out B bx n) cs).map .agg
    | .tup vs => (mapO (out B bx n) vs).map .tup
    | .func f a b => match mapO (out B bx n) a, mapO (out B bx n) b with
      | some a, some b => some (.func f a b)
      | _, _ => none
    | v => fz B bx (n + 1) v

/-- A cell that may stand in a row that never changes. -/
def clean (v : PV) : Option PV := fz 0 [] 3 v

/-- Does it name boxes below B alone? -/
def under (B : Nat) : Nat → PV → Bool
  | 0, _ => false
  | n + 1, v =>
    match v with
    | .ptr i _ => Nat.blt i B
    | .ms i _ _ _ => Nat.blt i B
    | .agg cs => cs.all (under B n)
    | .tup vs => vs.all (under B n)
    | .func _ a b => a.all (under B n) && b.all (under B n)
    | _ => true

/-- Boxes that a value names. -/
def refs : Nat → PV → List Nat
  | 0, _ => []
  | n + 1, v =>
    match v with
    | .ptr i _ => [i]
    | .ms i _ _ _ => [i]
    | .agg cs => cs.flatMap (refs n)
    | .tup vs => vs.flatMap (refs n)
    | .func _ a b => a.flatMap (refs n) ++ b.flatMap (refs n)
    | _ => []

def Box.refs : Box → List Nat
  | .cells _ l => l.flatMap (Am.refs 4)
  | .ro l => l.flatMap (Am.refs 4)
  | _ => []

def reach (bx : List Box) : Nat → List Nat → List Nat → List Nat
  | 0, _, seen => seen
  | _, [], seen => seen
  | n + 1, i :: todo, seen =>
    bif seen.any (Nat.beq i) then reach bx n todo seen
    else reach bx n ((match bx[i]? with | some b => b.refs | none => []) ++ todo) (i :: seen)

def Box.mask : Box → Box
  | .hole => .hole
  | .dead => .dead
  | _ => .away

def maskFrom (R : List Nat) : Nat → List Box → List Box
  | _, [] => []
  | k, b :: r => (bif R.any (Nat.beq k) then b else .hole) :: maskFrom R (k + 1) r

/-- Does it name boxes of R alone? -/
def inside (R : List Nat) : Nat → PV → Bool
  | 0, _ => false
  | n + 1, v =>
    match v with
    | .ptr i _ => R.any (Nat.beq i)
    | .ms i _ _ _ => R.any (Nat.beq i)
    | .agg cs => cs.all (inside R n)
    | .tup vs => vs.all (inside R n)
    | .func _ a b => a.all (inside R n) && b.all (inside R n)
    | _ => true

def fittedFrom (R : List Nat) : Nat → List Box → Bool
  | _, [] => true
  | k, b :: r => (!R.any (Nat.beq k) || (match b with
      | .cells _ l => l.all (inside R 4)
      | .ro l => l.all (inside R 4)
      | _ => true)) && fittedFrom R (k + 1) r

/-- Do boxes of R name boxes of R alone, and the arguments too? -/
def fitted (R : List Nat) (bx : List Box) (args : List PV) : Bool := args.all (inside R 4) && fittedFrom R 0 bx

/-- A box as it is handed to a call that only reads. -/
def Box.lent : Box → Box
  | .cells _ l => .ro l
  | .ro l => .ro l
  | .hole => .hole
  | .dead => .dead
  | _ => .away

def lendFrom (R : List Nat) : Nat → List Box → List Box
  | _, [] => []
  | k, b :: r => (bif R.any (Nat.beq k) then b.lent else b.mask) :: lendFrom R (k + 1) r

def mergeFrom (R : List Nat) : Nat → List Box → List Box → List Box
  | _, [], _ => []
  | k, b :: r, new =>
    (bif R.any (Nat.beq k) then (match new with | x :: _ => x | [] => .dead) else b) :: mergeFrom R (k + 1) r new.tail

def lookup (bx : List Box) (i off n : Nat) : Option (List PV) :=
  match bx[i]? with
  | some (.cells _ l) => bif Nat.ble (off + n) l.length then some ((l.drop off).take n) else none
  | some (.ro l) => bif Nat.ble (off + n) l.length then some ((l.drop off).take n) else none
  | _ => none

def splice (l : List PV) (off : Nat) (vs : List PV) : List PV := l.take off ++ vs ++ l.drop (off + vs.length)

def write (bx : List Box) (i off : Nat) (vs : List PV) : Option (List Box) :=
  match bx[i]? with
  | some (.cells t l) => bif Nat.ble (off + vs.length) l.length then some (bx.set i (.cells t (splice l off vs))) else none
  | _ => none

/-- A new box: at the end, or at a place that was kept for it. -/
def newBox (at_ : Option Nat) (S : St) (b : Box) : Option (Nat × St) :=
  match at_ with
  | none => some (S.bx.length, ⟨S.bx ++ [b], S.fr⟩)
  | some i => match S.bx[i]? with
    | some .hole => some (i, ⟨S.bx.set i b, S.fr⟩)
    | _ => none

def fwrap (k : IntKind) (n : Int) : Int :=
  match k, n with
  | .i64, .ofNat m => bif Nat.blt m 9223372036854775808 then .ofNat m else k.wrap (.ofNat m)
  | .u8, .ofNat m => bif Nat.blt m 256 then .ofNat m else k.wrap (.ofNat m)
  | .i32, .ofNat m => bif Nat.blt m 2147483648 then .ofNat m else k.wrap (.ofNat m)
  | .u32, .ofNat m => bif Nat.blt m 4294967296 then .ofNat m else k.wrap (.ofNat m)
  | .u64, .ofNat m => bif Nat.blt m 18446744073709551616 then .ofNat m else k.wrap (.ofNat m)
  | k, n => k.wrap n

def intBin (op : BinOp) (k : IntKind) (a b : Int) : Option PV :=
  match op with
  | .add => some (.int k (fwrap k (a + b)))
  | .sub => some (.int k (fwrap k (a - b)))
  | .mul => some (.int k (fwrap k (a * b)))
  | .quo => bif b == 0 then none else some (.int k (fwrap k (a.tdiv b)))
  | .rem => bif b == 0 then none else some (.int k (a.tmod b))
  | .and => some (.int k (k.wrap (BitVec.ofInt k.bits a &&& BitVec.ofInt k.bits b).toNat))
  | .or => some (.int k (k.wrap (BitVec.ofInt k.bits a ||| BitVec.ofInt k.bits b).toNat))
  | .xor => some (.int k (k.wrap (BitVec.ofInt k.bits a ^^^ BitVec.ofInt k.bits b).toNat))
  | .andNot => some (.int k (k.wrap (BitVec.ofInt k.bits a &&& ~~~(BitVec.ofInt k.bits b)).toNat))
  | .eql => some (.bool (a == b))
  | .neq => some (.bool (a != b))
  | .lss => some (.bool (decide (a < b)))
  | .leq => some (.bool (decide (a ≤ b)))
  | .gtr => some (.bool (decide (a > b)))
  | .geq => some (.bool (decide (a ≥ b)))
  | _ => none

def shiftBin (op : BinOp) (k : IntKind) (a b : Int) : Option PV :=
  bif decide (b < 0) then none else
  match op with
  | .shl => some (.int k (k.wrap (a * 2 ^ (min b.toNat k.bits))))
  | .shr => some (.int k (a.fdiv (2 ^ (min b.toNat k.bits))))
  | _ => none

def listLess : List Nat → List Nat → Bool
  | _, [] => false
  | [], _ :: _ => true
  | a :: x, b :: y => Nat.blt a b || (Nat.beq a b && listLess x y)

def listEq : List Nat → List Nat → Bool
  | [], [] => true
  | a :: x, b :: y => Nat.beq a b && listEq x y
  | _, _ => false

def maxStr : Nat := 1099511627776

def strBin (op : BinOp) (a b : List Nat) : Option PV :=
  match op with
  | .add => bif Nat.ble (a.length + b.length) maxStr then some (.str (a ++ b)) else none
  | .eql => some (.bool (listEq a b))
  | .neq => some (.bool (!listEq a b))
  | .lss => some (.bool (listLess a b))
  | .leq => some (.bool (listLess a b || listEq a b))
  | .gtr => some (.bool (!(listLess a b || listEq a b)))
  | .geq => some (.bool (!listLess a b))
  | _ => none

def kindEq : IntKind → IntKind → Bool
  | .i8, .i8 => true | .i16, .i16 => true | .i32, .i32 => true | .i64, .i64 => true
  | .u8, .u8 => true | .u16, .u16 => true | .u32, .u32 => true | .u64, .u64 => true
  | _, _ => false

def eqCellT : TK → PV → PV → Option Bool
  | .bool, .bool a, .bool b => some (a == b)
  | .int _, .int k a, .int k' b => bif kindEq k k' then some (a == b) else none
  | .str, .str a, .str b => some (listEq a b)
  | _, _, _ => none

/-- The kind of a type of one cell that is no aggregate. -/
def scalK (E : Env) (t : Nat) : Option TK :=
  match E.tt t with
  | some ti => bif Nat.beq ti.size 1 && !ti.agg then some ti.kind else none
  | none => none

def eqArr (k : TK) : List PV → List PV → Option Bool
  | [], [] => some true
  | a :: x, b :: y => match eqCellT k a b with
    | some true => eqArr k x y
    | some false => some false
    | none => none
  | _, _ => none

def eqFs (E : Env) : List (Nat × Nat) → Nat → List PV → List PV → Option Bool
  | [], _, [], [] => some true
  | (off, t) :: fs, i, a :: x, b :: y =>
    bif Nat.beq off i then
      match scalK E t with
      | some k => match eqCellT k a b with
        | some true => eqFs E fs (i + 1) x y
        | some false => some false
        | none => none
      | none => none
    else none
  | _, _, _, _ => none

def eqBin (E : Env) (cst : Bool) (t : Nat) (x y : PV) : Option Bool :=
  match E.tt t with
  | none => none
  | some ti =>
    match ti.kind, x, y with
    | .bool, .bool a, .bool b => some (a == b)
    | .ptr _, .nilptr, .nilptr => some true
    | .ptr _, .nilptr, .ptr _ _ => some false
    | .ptr _, .ptr _ _, .nilptr => some false
    | .ptr _, .nilptr, .imm _ _ => some false
    | .ptr _, .imm _ _, .nilptr => some false
    | .iface _, .niliface, .iface _ _ => some false
    | .iface _, .iface _ _, .niliface => some false
    | .iface n, .niliface, .niliface => bif cst || Nat.beq n 0 then some true else none
    | .iface _, .iface t a, .iface u b => bif Nat.beq t u then
        (match E.tt t with
        | some ti => bif ti.cmp then (match scalK E t with | some k => eqCellT k a b | none => none) else none
        | none => none)
      else some false
    | .slice _, .nilslice, .nilslice => some true
    | .slice _, .nilslice, .slice _ _ _ => some false
    | .slice _, .slice _ _ _, .nilslice => some false
    | .func, .nilfunc, .nilfunc => some true
    | .func, .func _ _ _, .nilfunc => some false
    | .arr n e, .agg a, .agg b => bif ti.eqg && Nat.beq a.length n then (match scalK E e with | some k => eqArr k a b | none => none) else none
    | .struct fs, .agg a, .agg b => bif ti.eqg then eqFs E fs 0 a b else none
    | _, _, _ => none

def isC : Operand → Bool
  | .const _ => true
  | _ => false

def binRun (E : Env) (cst : Bool) (op : BinOp) (t : Nat) (x y : PV) : Option PV :=
  match x, y with
  | .int k a, .int k' b => match op with
    | .shl => shiftBin .shl k a b
    | .shr => shiftBin .shr k a b
    | op => bif kindEq k k' then intBin op k a b else none
  | .str a, .str b => strBin op a b
  | x, y => match op with
    | .eql => (eqBin E cst t x y).map .bool
    | .neq => (eqBin E cst t x y).map fun b => .bool (!b)
    | _ => none

def unRun (op : UnOp) (x : PV) : Option PV :=
  match op, x with
  | .neg, .int k n => some (.int k (fwrap k (0 - n)))
  | .xor, .int k n => some (.int k (k.wrap (BitVec.ofInt k.bits (if k.signed then -1 else k.max) ^^^ BitVec.ofInt k.bits n).toNat))
  | .not, .bool b => some (.bool !b)
  | _, _ => none

def bytesOf : List PV → Option (List Nat)
  | [] => some []
  | .int .u8 (.ofNat n) :: r => bif Nat.blt n 256 then (bytesOf r).map (n :: ·) else none
  | _ => none

def isU8 (E : Env) (e : Nat) : Bool :=
  match E.tt e with
  | some t => (match t.kind with | .int .u8 => true | _ => false)
  | none => false

def convRun (E : Env) (S : St) (s d : Nat) (x : PV) : Option PV :=
  match E.tt s, E.tt d with
  | some ts, some td =>
    match ts.kind, td.kind, x with
    | .slice e, .str, .nilslice => bif isU8 E e then some (.str []) else none
    | .slice e, .str, .slice _ n cells => bif isU8 E e && Nat.beq cells.length n then (bytesOf cells).map .str else none
    | .slice e, .str, .ms i off n w => bif isU8 E e && Nat.beq w n then (match lookup S.bx i off w with | some c => (bytesOf c).map .str | none => none) else none
    | .int _, .int k, .int _ n => some (.int k (fwrap k n))
    | .str, .str, .str l => some (.str l)
    | .int _, .str, .int _ n => some (.str ((Utf8.encode n).data.toList.map UInt8.toNat))
    | _, _, _ => none
  | _, _ => none

def asNat : PV → Option Nat
  | .int _ (.ofNat n) => some n
  | _ => none

/-- Lay parts over cells: place, size. -/
def fillL (place : Nat → Option (Nat × Nat)) : List PV → List (Nat × PV) → Option (List PV)
  | cs, [] => some cs
  | cs, (i, v) :: r =>
    match place i with
    | none => none
    | some (off, size) =>
      bif v.flat && (Nat.beq v.cells.length size && Nat.ble (off + size) cs.length) then fillL place (splice cs off v.cells) r else none

def evParts (ev : Operand → Option PV) : List (Nat × Operand) → Option (List (Nat × PV))
  | [] => some []
  | (i, x) :: r => match ev x, evParts ev r with
    | some v, some vs => some ((i, v) :: vs)
    | _, _ => none

def evArgs (ev : Operand → Option PV) : List Operand → Option (List PV)
  | [] => some []
  | x :: r => match ev x, evArgs ev r with
    | some v, some vs => some (v :: vs)
    | _, _ => none

def repl : Nat → List PV → List PV
  | 0, _ => []
  | n + 1, z => z ++ repl n z

def sizeE (E : Env) (t : Nat) : Option Nat := match E.tt t with | some ti => some ti.size | none => none

def maxBytes : Nat := 35184372088832

/-- Do so many of so many bytes each fit? -/
def fits (n bytes : Nat) : Bool := Nat.ble (n * bytes) maxBytes && Nat.ble n maxBytes

/-- The cells of what is appended, and how many elements. -/
def appendedOf (S : St) (sz : Nat) : PV → Option (Nat × List PV)
  | .nilslice => some (0, [])
  | .slice _ n cells => some (n, cells)
  | .str l => bif Nat.beq sz 1 then some (l.length, l.map fun b => .int .u8 (.ofNat b)) else none
  | .ms i off n w => match lookup S.bx i off w with | some c => some (n, c) | none => none
  | _ => none

/-- The element type of a slice type, and what is known of it. -/
def elemE (E : Env) (t : Nat) : Option (Nat × TI) :=
  match E.tt t with
  | some ti => match ti.kind with
    | .slice e => match E.tt e with
      | some te => some (e, te)
      | none => none
    | _ => none
  | none => none

def appendRun (E : Env) (hp : Bool) (at_ : Option Nat) (S : St) (sT : Nat) (s x : PV) : Option (PV × St) :=
  match elemE E sT with
  | none => none
  | some (e, te) =>
    match appendedOf S te.size x with
    | none => none
    | some (m, xs) =>
      bif Nat.beq te.size 0 then none
      else bif Nat.beq m 0 then
        match s with
        | .nilslice => some (s, S)
        | .slice _ _ _ => some (s, S)
        | .ms _ _ _ _ => some (s, S)
        | _ => none
      else bif !Nat.beq xs.length (m * te.size) then none
      else bif hp then
        match s with
        | .nilslice =>
          bif fits m te.bytes then
            match newBox at_ S (.cells e xs) with
            | some (i, S) => some (.ms i 0 m xs.length, S)
            | none => none
          else none
        | .ms i off n w =>
          match S.bx[i]? with
          | some (.cells t l) =>
            bif Nat.blt 0 n && (Nat.beq off 0 && (Nat.beq l.length w && (Nat.beq w (n * te.size) && (Nat.beq t e && fits (n + m) te.bytes)))) then
              match newBox at_ ⟨S.bx.set i .dead, S.fr⟩ (.cells e (l ++ xs)) with
              | some (j, S) => some (.ms j 0 (n + m) (w + xs.length), S)
              | none => none
            else none
          | _ => none
        | _ => none
      else
        match mapO clean xs with
        | none => none
        | some xs =>
          match s with
          | .nilslice =>
            bif fits m te.bytes then some (.slice (.id S.fr.length) m xs, ⟨S.bx, S.fr ++ [some (xs.length, e)]⟩) else none
          | .slice k n cells =>
            bif Nat.beq cells.length (n * te.size) && fits (n + m) te.bytes then
              match k with
              | .full => some (.slice (.id S.fr.length) (n + m) (cells ++ xs), ⟨S.bx, S.fr ++ [some (cells.length + xs.length, e)]⟩)
              | .id g =>
                match S.fr[g]? with
                | some (some (l, e')) =>
                  bif Nat.beq l cells.length && (Nat.beq e' e && (Nat.blt 0 n || Nat.beq te.size 1)) then
                    some (.slice (.id g) (n + m) (cells ++ xs), ⟨S.bx, S.fr.set g (some (cells.length + xs.length, e))⟩)
                  else none
                | _ => none
              | .sh => none
            else none
          | _ => none

def lenRun (E : Env) (t : Nat) (x : PV) : Option PV :=
  match E.tt t with
  | none => none
  | some ti => match ti.kind, x with
    | .str, .str l => some (.int .i64 (.ofNat l.length))
    | .slice _, .nilslice => some (.int .i64 0)
    | .slice _, .slice _ n _ => some (.int .i64 (.ofNat n))
    | .slice _, .ms _ _ n _ => some (.int .i64 (.ofNat n))
    | .arr n _, _ => some (.int .i64 (.ofNat n))
    | _, _ => none

def bound (ev : Operand → Option PV) (d : Nat) : Option Operand → Option Nat
  | none => some d
  | some o => match ev o with | some v => asNat v | none => none

def sliceKind (k : SK) (n lw h : Nat) (m : Option Nat) : SK :=
  match m with
  | some m => bif Nat.beq m h then .full else .sh
  | none => bif Nat.beq lw 0 && Nat.beq h n then k else .sh

def sliceRun (E : Env) (S : St) (ev : Operand → Option PV) (t : Nat) (x : PV) (lo hi mx : Option Operand) : Option PV :=
  match E.tt t with
  | none => none
  | some ti =>
    match ti.kind, x with
    | .str, .str l =>
      match bound ev 0 lo, bound ev l.length hi, mx with
      | some lw, some h, none => bif Nat.ble lw h && Nat.ble h l.length then some (.str ((l.drop lw).take (h - lw))) else none
      | _, _, _ => none
    | .slice e, .nilslice =>
      match sizeE E e, bound ev 0 lo, bound ev 0 hi, bound ev 0 mx with
      | some _, some lw, some h, some m => bif (hi.isSome || mx.isNone) && (Nat.beq lw 0 && (Nat.beq h 0 && Nat.beq m 0)) then some .nilslice else none
      | _, _, _, _ => none
    | .slice e, .slice k n cells =>
      match sizeE E e, bound ev 0 lo, bound ev n hi, bound ev n mx with
      | some sz, some lw, some h, some m =>
        bif (hi.isSome || mx.isNone) && (Nat.ble lw h && (Nat.ble h m && (Nat.ble m n && Nat.beq cells.length (n * sz)))) then
          some (.slice (sliceKind k n lw h (match mx with | some _ => some m | none => none)) (h - lw) ((cells.drop (lw * sz)).take ((h - lw) * sz)))
        else none
      | _, _, _, _ => none
    | .slice e, .ms i off n w =>
      match sizeE E e, bound ev 0 lo, bound ev n hi, mx with
      | some sz, some lw, some h, none =>
        bif Nat.ble lw h && (Nat.ble h n && Nat.beq w (n * sz)) then some (.ms i (off + lw * sz) (h - lw) ((h - lw) * sz)) else none
      | _, _, _, _ => none
    | .arr n e, .ptr i off =>
      match sizeE E e, bound ev 0 lo, bound ev n hi, mx with
      | some sz, some lw, some h, none =>
        match lookup S.bx i off (n * sz) with
        | some _ => bif Nat.ble lw h && Nat.ble h n then some (.ms i (off + lw * sz) (h - lw) ((h - lw) * sz)) else none
        | none => none
      | _, _, _, _ => none
    | _, _ => none

def indexAddrRun (E : Env) (t : Nat) (x : PV) (i : Nat) : Option PV :=
  match E.tt t with
  | none => none
  | some ti =>
    match ti.kind, x with
    | .slice e, .slice _ n cells => bif Nat.blt i n then (match sizeE E e with | some sz => some (.imm (i * sz) cells) | none => none) else none
    | .slice e, .ms b off n _ => bif Nat.blt i n then (match sizeE E e with | some sz => some (.ptr b (off + i * sz)) | none => none) else none
    | .arr n e, .ptr b off => bif Nat.blt i n then (match sizeE E e with | some sz => some (.ptr b (off + i * sz)) | none => none) else none
    | .arr n e, .imm off cells => bif Nat.blt i n then (match sizeE E e with | some sz => some (.imm (off + i * sz) cells) | none => none) else none
    | _, _ => none

def partOf (E : Env) (t : Nat) (cs : List PV) (off : Nat) : Option PV :=
  match E.tt t with
  | none => none
  | some ti => bif Nat.ble (off + ti.size) cs.length then (bif ti.agg then some (.agg ((cs.drop off).take ti.size)) else cs[off]?) else none

def indexRun (E : Env) (t : Nat) (x : PV) (i : Nat) : Option PV :=
  match E.tt t with
  | none => none
  | some ti =>
    match ti.kind, x with
    | .str, .str l => match l[i]? with | some b => some (.int .u8 (.ofNat b)) | none => none
    | .arr n e, .agg cs => bif Nat.blt i n then (match sizeE E e with | some sz => partOf E e cs (i * sz) | none => none) else none
    | _, _ => none

def ofAgg (agg : Bool) (c : List PV) : Option PV :=
  bif agg then some (.agg c) else match c with | [v] => some v | _ => none

def loadRun (E : Env) (S : St) (t : Nat) (a : PV) : Option PV :=
  match E.tt t with
  | none => none
  | some ti =>
    match a with
    | .ptr i off => match lookup S.bx i off ti.size with
      | some c => ofAgg ti.agg c
      | none => none
    | .imm off cells => bif Nat.ble (off + ti.size) cells.length then ofAgg ti.agg ((cells.drop off).take ti.size) else none
    | _ => none

def assertRun (E : Env) (asserted : Nat) (comma : Bool) (x : PV) : Option PV :=
  match E.tt asserted with
  | none => none
  | some ti =>
    match ti.kind, x with
    | .iface _, _ => none
    | _, .niliface => bif comma then (match ofAgg ti.agg ti.zero with | some z => some (.tup [z, .bool false]) | none => none) else none
    | _, .iface t v =>
      bif Nat.beq t asserted then some (bif comma then .tup [v, .bool true] else v)
      else bif comma then (match ofAgg ti.agg ti.zero with | some z => some (.tup [z, .bool false]) | none => none) else none
    | _, _ => none

def minmax (mx : Bool) : PV → List PV → Option PV
  | v, [] => some v
  | .int k a, .int k' b :: r =>
    bif kindEq k k' then minmax mx (.int k (bif mx then (bif decide (b > a) then b else a) else (bif decide (b < a) then b else a))) r else none
  | _, _ => none

/-- Is it a slice's or a text's type? -/
def rowT (E : Env) (t : Nat) : Bool :=
  match E.tt t with
  | some ti => (match ti.kind with | .slice _ => true | .str => true | _ => false)
  | none => false

def builtinRun (E : Env) (hp : Bool) (at_ : Option Nat) (S : St) (b : Builtin) (argT : List Nat) (args : List PV) : Option (PV × St) :=
  match b, argT, args with
  | .append, [t, u], [s, x] => bif rowT E u then appendRun E hp at_ S t s x else none
  | .len, [t], [x] => match lenRun E t x with | some v => some (v, S) | none => none
  | .max, _, .int k a :: r => match minmax true (.int k a) r with | some v => some (v, S) | none => none
  | .min, _, .int k a :: r => match minmax false (.int k a) r with | some v => some (v, S) | none => none
  | _, _, _ => none

def withS (S : St) : Option PV → Option (PV × St)
  | some v => some (v, S)
  | none => none

def placeOf (E : Env) (fs : List (Nat × Nat)) (i : Nat) : Option (Nat × Nat) :=
  match fs[i]? with
  | some (off, t) => match sizeE E t with | some s => some (off, s) | none => none
  | none => none

/-- One operation; cf: what a call comes to. -/
def opRun (E : Env) (cf : Nat → List PV → St → Option (PV × St)) (hp : Bool) (at_ : Option Nat) (ev : Operand → Option PV) (S : St) (o : Oper) : Option (PV × St) :=
  match o.op with
  | .move x => withS S (ev x)
  | .assign x => withS S (ev x)
  | .pick c a b => match ev c with
    | some (.bool t) => withS S (bif t then ev a else ev b)
    | _ => none
  | .alloc t => match E.tt t with
    | some ti => match newBox at_ S (.cells t ti.zero) with
      | some (i, S) => some (.ptr i 0, S)
      | none => none
    | none => none
  | .box t x => match ev x with
    | some v => bif v.flat then
        match newBox at_ S (.cells t v.cells) with
        | some (i, S) => some (.ptr i 0, S)
        | none => none
      else none
    | none => none
  | .build t ps => match E.tt t, evParts ev ps.toList with
    | some ti, some vs => match ti.kind with
      | .struct fs => match fillL (placeOf E fs) ti.zero vs with
        | some cs => some (.agg cs, S)
        | none => none
      | .arr _ e => match sizeE E e with
        | some sz => match fillL (fun i => some (i * sz, sz)) ti.zero vs with
          | some cs => some (.agg cs, S)
          | none => none
        | none => none
      | _ => none
    | _, _ => none
  | .buildSlice t n ps => match elemE E t, evParts ev ps.toList with
    | some (e, te), some vs =>
      bif Nat.beq n 0 then (match hp, vs with | false, [] => some (.slice .full 0 [], S) | _, _ => none) else
      bif Nat.ble (n * te.size) 65536 && Nat.blt 0 (n * te.size) then
        match fillL (fun i => some (i * te.size, te.size)) (repl n te.zero) vs with
        | some cs =>
          bif hp then
            match newBox at_ S (.cells e cs) with
            | some (i, S) => some (.ms i 0 n cs.length, S)
            | none => none
          else match mapO clean cs with
            | some cs => some (.slice .full n cs, S)
            | none => none
        | none => none
      else none
    | _, _ => none
  | .load t a => match ev a with
    | some p => withS S (loadRun E S t p)
    | none => none
  | .store t a x => match ev a, ev x, E.tt t with
    | some (.ptr i off), some v, some ti =>
      bif v.flat && Nat.beq v.cells.length ti.size then
        match write S.bx i off v.cells with
        | some bx => some (undef, ⟨bx, S.fr⟩)
        | none => none
      else none
    | _, _, _ => none
  | .nilCheck x => match ev x with
    | some (.ptr i off) => some (.ptr i off, S)
    | some (.imm off c) => some (.imm off c, S)
    | _ => none
  | .binOp op t x y _ => match ev x, ev y with
    | some a, some b => withS S (binRun E (isC x || isC y) op t a b)
    | _, _ => none
  | .unOp op _ x => match ev x with
    | some a => withS S (unRun op a)
    | none => none
  | .convert s d x => match ev x with
    | some a => withS S (convRun E S s d a)
    | none => none
  | .makeInterface t x => match E.tt t, ev x with
    | some ti, some a => match ti.kind, a with
      | .iface _, _ => none
      | _, .ptr i off => bif Nat.beq off 0 then
          match S.bx[i]? with
          | some (.cells _ l) => match mapO clean l with
            | some c => some (.iface t (.imm 0 c), ⟨S.bx.set i .dead, S.fr⟩)
            | none => none
          | _ => none
        else none
      | _, .ms _ _ _ _ => none
      | _, a => match clean a with
        | some v => some (.iface t v, S)
        | none => none
    | _, _ => none
  | .makeFunc (.func f) first captured => match evArgs ev first.toList, evArgs ev captured.toList with
    | some a, some b => some (.func f a b, S)
    | _, _ => none
  | .slice t x lo hi mx => match ev x with
    | some a => withS S (sliceRun E S ev t a lo hi mx)
    | none => none
  | .fieldAddr t x f => match E.tt t, ev x with
    | some ti, some a => match ti.kind with
      | .struct fs => match placeOf E fs f with
        | some (off, s) => bif Nat.beq s 0 then none else
          match a with
          | .ptr i o => some (.ptr i (o + off), S)
          | .imm o c => some (.imm (o + off) c, S)
          | _ => none
        | none => none
      | _ => none
    | _, _ => none
  | .field t x f => match E.tt t, ev x with
    | some ti, some (.agg cs) => match ti.kind with
      | .struct fs => match fs[f]? with
        | some (off, ft) => withS S (partOf E ft cs off)
        | none => none
      | _ => none
    | _, _ => none
  | .indexAddr t x i => match ev x, ev i with
    | some a, some k => match asNat k with
      | some k => withS S (indexAddrRun E t a k)
      | none => none
    | _, _ => none
  | .index t x i => match ev x, ev i with
    | some a, some k => match asNat k with
      | some k => withS S (indexRun E t a k)
      | none => none
    | _, _ => none
  | .range t x => match E.tt t, ev x with
    | some ti, some (.str l) => match ti.kind with
      | .str => match newBox at_ S (.iter l 0) with
        | some (i, S) => some (.ptr i 0, S)
        | none => none
      | _ => none
    | _, _ => none
  | .next it str => match ev it with
    | some (.ptr i off) => match S.bx[i]? with
      | some (.iter l pos) =>
        bif str && Nat.beq off 0 then
          bif Nat.blt pos l.length then
            match Utf8.decode ⟨(l.map Nat.toUInt8).toArray⟩ pos with
            | (c, w) => some (.tup [.bool true, .int .i64 (.ofNat pos), .int .i32 (.ofNat c)], ⟨S.bx.set i (.iter l (pos + w)), S.fr⟩)
          else some (.tup [.bool false], S)
        else none
      | _ => none
    | _ => none
  | .typeAssert x _ a comma => match ev x with
    | some v => withS S (assertRun E a comma v)
    | none => none
  | .extract x i => match ev x with
    | some (.tup vs) => withS S vs[i]?
    | _ => none
  | .call c => match evArgs ev c.args.toList with
    | some args => match c.callee with
      | .builtin b => builtinRun E hp at_ S b c.argTypes.toList args
      | .value f => match ev f with
        | some (.func f first cap) => cf f (first ++ args ++ cap) S
        | _ => none
      | .invoke _ _ => none
    | none => none
  | _ => none

/-- Is it an operation for which a place is kept? -/
def allocs (_hp : Bool) (o : Oper) : Bool :=
  match o.op with
  | .alloc _ => true
  | .box _ _ => true
  | .range _ _ => true
  | _ => false

structure Fr where
  n : Nat
  regs : Regs
  defers : List (PV × List PV)
  S : St

def putR (n : Nat) (regs : Regs) (d : Option Nat) (v : PV) : Option Regs :=
  match d with
  | some t => bif Nat.blt t n && Nat.blt t 4000 then some (setR t v regs) else none
  | none => some regs

def guardOk (ops : Array Oper) (regs : Regs) (o : Oper) : Bool :=
  match o.guard with
  | none => true
  | some (j, want) => match (ops[j]?).bind (·.dst) with
    | some t => match getR t regs with
      | .bool true => want
      | .bool false => !want
      | _ => false
    | none => false

def putF (F : Fr) (d : Option Nat) (v : PV) (D : List (PV × List PV)) (S : St) : Option Fr :=
  match putR F.n F.regs d v with
  | some r => some ⟨F.n, r, D, S⟩
  | none => none

def operRun (E : Env) (cf : Nat → List PV → St → Option (PV × St)) (hp : Bool) (ops : Array Oper) (at_ : Option Nat) (o : Oper) (F : Fr) : Option Fr :=
  bif guardOk ops F.regs o then
    match o.op with
    | .defer c => match c.callee with
      | .value f => match evalO E F.regs f, evArgs (evalO E F.regs) c.args.toList with
        | some (.func g fi ca), some args => putF F o.dst undef ((.func g fi ca, args) :: F.defers) F.S
        | _, _ => none
      | _ => none
    | _ => match opRun E cf hp at_ (evalO E F.regs) F.S o with
      | some (v, S) => putF F o.dst v F.defers S
      | none => none
  else putF F o.dst undef F.defers F.S

def opsRun (E : Env) (cf : Nat → List PV → St → Option (PV × St)) (hp : Bool) (ops : Array Oper) : List Oper → Fr → Option Fr
  | [], F => some F
  | o :: r, F => match operRun E cf hp ops none o F with
    | some F => opsRun E cf hp ops r F
    | none => none

/-- What an operation of a drawn region has to do with what changes. -/
inductive Eff where
  | none
  | reads (i off n : Nat)      -- some cells of a box
  | looks                      -- a call that only reads
  | writes (i off n : Nat)
  | makes (i : Nat)            -- it fills a place that was kept
  | touches (raw : Bool) (R : List Nat)     -- it may change these boxes, and what lies behind the end, and lineages
  | all                        -- it may change anything

def effOf (E : Env) (hp : Bool) (at_ : Option Nat) (ev : Operand → Option PV) (S : St) (o : Oper) : Eff :=
  match o.op with
  | .alloc _ => match at_ with | some i => .makes i | none => .all
  | .box _ _ => match at_ with | some i => .makes i | none => .all
  | .range _ _ => match at_ with | some i => .makes i | none => .all
  | .buildSlice _ n _ => bif Nat.beq n 0 || !hp then .none else .all
  | .load t a => match ev a with
    | some (.ptr i off) => match sizeE E t with | some n => .reads i off n | none => .all
    | some (.imm _ _) => .none
    | _ => .all
  | .store t a _ => match ev a with
    | some (.ptr i off) => match sizeE E t with | some n => .writes i off n | none => .all
    | _ => .all
  | .convert _ _ x => match ev x with
    | some (.ms i off _ w) => .reads i off w
    | _ => .none
  | .slice t x _ _ _ => match ev x with
    | some (.ptr _ _) => .all
    | _ => .none
  | .makeInterface _ x => match ev x with
    | some (.ptr _ _) => .all
    | _ => .none
  | .next _ _ => .all
  | .defer _ => .all
  | .call c => match c.callee with
    | .builtin .append => bif hp then .all else match c.args.toList with
      | [_, x] => (match ev x with | some (.ms _ _ _ _) => .all | _ => .touches false [])
      | _ => .all
    | .builtin _ => .none
    | .value f => match ev f, evArgs ev c.args.toList with
      | some (.func f first cap), some args =>
        bif E.raw f then .touches true (reach S.bx 1024 ((first ++ args ++ cap).flatMap (refs 4)) []) else
        match mapO clean (first ++ args ++ cap) with
        | some _ => .none
        | none => bif E.ro f then .looks else .touches false (reach S.bx 1024 ((first ++ args ++ cap).flatMap (refs 4)) [])
      | _, _ => .all
    | .invoke _ _ => .all
  | _ => .none

def notIn (R : List Nat) (i : Nat) : Bool := !R.any (Nat.beq i)

/-- May the second be done first, and the first then? (B: how many boxes there were at the beginning) -/
def apart (B : Nat) : Eff → Eff → Bool
  | .none, _ => true
  | _, .none => true
  | .reads _ _ _, .reads _ _ _ => true
  | .reads _ _ _, .looks => true
  | .looks, .reads _ _ _ => true
  | .looks, .looks => true
  | .reads i a n, .writes j b m => !Nat.beq i j || (Nat.ble (a + n) b || Nat.ble (b + m) a)
  | .writes j b m, .reads i a n => !Nat.beq i j || (Nat.ble (a + n) b || Nat.ble (b + m) a)
  | .reads i _ _, .touches _ R => Nat.blt i B && notIn R i
  | .touches _ R, .reads i _ _ => Nat.blt i B && notIn R i
  | .reads i _ _, .makes k => !Nat.beq i k
  | .makes k, .reads i _ _ => !Nat.beq i k
  | .touches true R, .makes k => Nat.blt k B && notIn R k
  | _, _ => false

/-- Is each pair that may not be done in either order told to stand in this order? (before: the model's own masks) -/
def ordered (B : Nat) (before : Nat → Nat) : Nat → List Eff → Bool
  | _, [] => true
  | i, e :: r => go before B i e (i + 1) r && ordered B before (i + 1) r
 where
  go (before : Nat → Nat) (B i : Nat) (e : Eff) : Nat → List Eff → Bool
    | _, [] => true
    | j, x :: r => (apart B e x || (before j).testBit i) && go before B i e (j + 1) r

def effAt (E : Env) (hp : Bool) (ops : Array Oper) (at_ : Option Nat) (o : Oper) (F : Fr) : Eff :=
  bif guardOk ops F.regs o then effOf E hp at_ (evalO E F.regs) F.S o else .none

/-- Drawn: places are kept for what makes boxes; what is done is told. -/
def opsDraw (E : Env) (cf : Nat → List PV → St → Option (PV × St)) (hp : Bool) (ops : Array Oper) : List (Option Nat × Oper) → Fr → Option (Fr × List Eff)
  | [], F => some (F, [])
  | (at_, o) :: r, F =>
    match operRun E cf hp ops at_ o F with
    | some F' => match opsDraw E cf hp ops r F' with
      | some (F'', es) => some (F'', effAt E hp ops at_ o F :: es)
      | none => none
    | none => none

def places (hp : Bool) : List Oper → Nat → List (Option Nat × Oper)
  | [], _ => []
  | o :: r, nx => bif allocs hp o then (some nx, o) :: places hp r (nx + 1) else (none, o) :: places hp r nx

def holes (n : Nat) (S : St) : St := ⟨S.bx ++ List.replicate n .hole, S.fr⟩

def countAllocs (hp : Bool) : List Oper → Nat
  | [] => 0
  | o :: r => bif allocs hp o then countAllocs hp r + 1 else countAllocs hp r

def regionRun (E : Env) (cf : Nat → List PV → St → Option (PV × St)) (hp : Bool) (ops : Array Oper) (draw : Bool) (F : Fr) : Option Fr :=
  bif draw then
    match opsDraw E cf hp ops (places hp ops.toList F.S.bx.length) ⟨F.n, F.regs, F.defers, holes (countAllocs hp ops.toList) F.S⟩ with
    | some (F', es) => bif ordered (F.S.bx.length + countAllocs hp ops.toList) (fun j => (Region.before ops).getD j 0) 0 es then some F' else none
    | none => none
  else opsRun E cf hp ops ops.toList F

inductive Ex where
  | normal | ret | exit (id : Nat)

def execStep (E : Env) (cf : Nat → List PV → St → Option (PV × St)) (hp : Bool) (self : Code → Fr → Option (Ex × Fr)) (c : Code) (F : Fr) : Option (Ex × Fr) :=
  match c with
  | .skip => some (.normal, F)
  | .label _ => some (.normal, F)
  | .region _ ops draw => match regionRun E cf hp ops draw F with
    | some F => some (.normal, F)
    | none => none
  | .seq a b => match self a F with
    | some (.normal, F) => self b F
    | r => r
  | .cond x a b => match evalO E F.regs x with
    | some (.bool t) => bif t then self a F else self b F
    | _ => none
  | .block id b => match self b F with
    | some (.exit k, F) => bif Nat.beq k id then some (.normal, F) else some (.exit k, F)
    | r => r
  | .loop b => match self b F with
    | some (.normal, F) => self (.loop b) F
    | r => r
  | .exit id => some (.exit id, F)
  | .ret => some (.ret, F)
  | _ => none

def resultOf (E : Env) (regs : Regs) (S : St) : ResultVar → Option PV
  | .tmp t => some (getR t regs)
  | .cell a t => loadRun E S t (getR a regs)

def resultList (E : Env) (regs : Regs) (S : St) : List ResultVar → Option (List PV)
  | [] => some []
  | r :: rs => match resultOf E regs S r, resultList E regs S rs with
    | some v, some vs => some (v :: vs)
    | _, _ => none

def resultsOf (E : Env) (fn : Func) (regs : Regs) (S : St) : Option PV :=
  match resultList E regs S fn.results.toList with
  | some [v] => some v
  | some vs => some (.tup vs)
  | none => none

def numb : Nat → List PV → Regs
  | _, [] => .e
  | k, v :: r => setR k v (numb (k + 1) r)

abbrev CallF := Nat → List PV → St → Option (PV × St)

def runDefers (E : Env) (code : Bool → Code → Fr → Option (Ex × Fr)) : List (PV × List PV) → St → Option St
  | [], S => some S
  | (.func f first cap, args) :: r, S =>
    match E.fn f with
    | some fn => match fn.body with
      | some c =>
        bif Nat.ble (first ++ args ++ cap).length fn.ntmps && Nat.ble (first ++ args ++ cap).length 4000 then
          match code (E.heapy f) c ⟨fn.ntmps, numb 0 (first ++ args ++ cap), [], S⟩ with
          | some (.exit _, _) => none
          | some (_, F) => match F.defers, resultsOf E fn F.regs F.S with
            | [], some _ => runDefers E code r F.S
            | _, _ => none
          | none => none
        else none
      | none => none
    | none => none
  | _, _ => none

/-- Registers of what is not told to stand in order are apart. -/
def sanePairs (ops : Array Oper) (before : Nat → Nat) (i : Nat) (x : Oper) : Nat → List Oper → Bool
  | _, [] => true
  | j, y :: r => ((before j).testBit i || Oper.apart ops x y) && sanePairs ops before i x (j + 1) r

def saneOps (ops : Array Oper) (before : Nat → Nat) : Nat → List Oper → Bool
  | _, [] => true
  | i, x :: r => x.after.all (fun e => !Region.binds .any e || Nat.blt e.on i) && (sanePairs ops before i x (i + 1) r && saneOps ops before (i + 1) r)

def saneCode : Code → Bool
  | .region _ ops true => saneOps ops (fun j => (Region.before ops).getD j 0) 0 ops.toList
  | .seq a b => saneCode a && saneCode b
  | .cond _ a b => saneCode a && saneCode b
  | .block _ a => saneCode a
  | .loop a => saneCode a
  | _ => true

/-- What a function's code comes to, when it is entered. -/
def enterStep (E : Env) (code : Bool → Code → Fr → Option (Ex × Fr)) (f : Nat) (args : List PV) (S : St) : Option (PV × St) :=
  match E.prim f with
  | some p => p args S
  | none =>
    match E.fn f with
    | some fn => match fn.body with
      | some c =>
        bif Nat.ble args.length fn.ntmps && Nat.ble args.length 4000 then
          match code (E.heapy f) c ⟨fn.ntmps, numb 0 args, [], S⟩ with
          | some (.exit _, _) => none
          | some (_, F) => match runDefers E code F.defers F.S with
            | some S => match resultsOf E fn F.regs S with
              | some v => some (v, S)
              | none => none
            | none => none
          | none => none
        else none
      | none => none
    | none => none

def below (B : Nat) (bx : List Box) : Bool := bx.all fun b => match b with
  | .cells _ l => l.all (under B 4)
  | .ro l => l.all (under B 4)
  | _ => true

/-- What a call comes to. A call that is handed no box is run with none. -/
def callStep (E : Env) (enter : CallF) : CallF := fun f args S =>
  bif E.raw f then
    bif fitted (reach S.bx 1024 (args.flatMap (refs 4)) []) S.bx args then
    match enter f args ⟨maskFrom (reach S.bx 1024 (args.flatMap (refs 4)) []) 0 S.bx, S.fr⟩ with
    | some (v, S1) => some (v, ⟨mergeFrom (reach S.bx 1024 (args.flatMap (refs 4)) []) 0 S.bx S1.bx ++ S1.bx.drop S.bx.length, S1.fr⟩)
    | none => none
    else none
  else
  match mapO clean args with
  | some args => match enter f args St.empty with
    | some (v, S1) => match fz 0 S1.bx 12 v with
      | some v => some (v, S)
      | none => none
    | none => none
  | none =>
    bif E.ro f then
      match enter f args ⟨lendFrom (reach S.bx 1024 (args.flatMap (refs 4)) []) 0 S.bx, S.fr.map fun _ => none⟩ with
      | some (v, S1) => match fz 0 S1.bx 12 v with
        | some v => some (v, S)
        | none => none
      | none => none
    else
    bif fitted (reach S.bx 1024 (args.flatMap (refs 4)) []) S.bx args then
    match enter f args ⟨maskFrom (reach S.bx 1024 (args.flatMap (refs 4)) []) 0 S.bx, S.fr⟩ with
    | some (v, S1) => match out S.bx.length S1.bx 12 v with
      | some v =>
        bif below S.bx.length (mergeFrom (reach S.bx 1024 (args.flatMap (refs 4)) []) 0 S.bx S1.bx) then
          some (v, ⟨mergeFrom (reach S.bx 1024 (args.flatMap (refs 4)) []) 0 S.bx S1.bx, S1.fr⟩)
        else none
      | none => none
    | none => none
    else none

structure Runs where
  code : Bool → Code → Fr → Option (Ex × Fr)
  call : CallF

def runs (E : Env) (n : Nat) : Runs :=
  Nat.rec ⟨fun _ _ _ => none, fun _ _ _ => none⟩
    (fun _ R => ⟨fun hp => execStep E R.call hp (R.code hp), callStep E (enterStep E R.code)⟩) n

end Go.Am

/- The abstract machine's values, boxes and lineages read as the model's: the relations, and that they outlast what a call does. No condition. -/
namespace Go.Am

def bytesL (s : ByteArray) : List Nat := s.data.toList.map UInt8.toNat

/-- What is known of memory: cells that never change; where boxes lie; each lineage's newest value. -/
structure Conf where
  sg : Nat → Nat → Option Value
  be : Nat → Nat
  sz : Nat → Nat
  ep : Nat → Value

inductive CRel (sg : Nat → Nat → Option Value) : PV → Value → Prop
  | int (k : IntKind) (n : Int) : CRel sg (.int k n) (.int k n)
  | bool (b : Bool) : CRel sg (.bool b) (.bool b)
  | str (s : ByteArray) : CRel sg (.str (bytesL s)) (.string s)
  | nilptr : CRel sg .nilptr (.pointer none)
  | nilslice : CRel sg .nilslice (.slice none 0 0)
  | niliface : CRel sg .niliface .nilIface
  | nilfunc : CRel sg .nilfunc .nilFunc
  | sh (n : Nat) (cells : List PV) (b o cap : Nat) (vs : Nat → Value) (hn : n ≤ cap) (ho : ∀ i (h : i < cells.length), cells[i].one = true)
      (hs : ∀ i, i < cells.length → sg b (o + i) = some (vs i)) (hc : ∀ i (h : i < cells.length), CRel sg cells[i] (vs i)) :
      CRel sg (.slice .sh n cells) (.slice (some ⟨b, o, none⟩) n cap)
  | full (n : Nat) (cells : List PV) (b o : Nat) (vs : Nat → Value) (ho : ∀ i (h : i < cells.length), cells[i].one = true)
      (hs : ∀ i, i < cells.length → sg b (o + i) = some (vs i)) (hc : ∀ i (h : i < cells.length), CRel sg cells[i] (vs i)) :
      CRel sg (.slice .full n cells) (.slice (some ⟨b, o, none⟩) n n)
  | she (a : Addr) (cap : Nat) : CRel sg (.slice .sh 0 []) (.slice (some a) 0 cap)
  | fulle (a : Addr) : CRel sg (.slice .full 0 []) (.slice (some a) 0 0)
  | agg (cells : List PV) (cs : Array Value) (vs : Nat → Value) (hl : cs.size = cells.length) (ho : ∀ i (h : i < cells.length), cells[i].one = true)
      (hv : ∀ i, i < cells.length → cs[i]? = some (vs i)) (hc : ∀ i (h : i < cells.length), CRel sg cells[i] (vs i)) : CRel sg (.agg cells) (.agg cs)
  | tup (cells : List PV) (cs : Array Value) (vs : Nat → Value) (hl : cs.size = cells.length)
      (hv : ∀ i, i < cells.length → cs[i]? = some (vs i)) (hc : ∀ i (h : i < cells.length), CRel sg cells[i] (vs i)) : CRel sg (.tup cells) (.tuple cs)
  | iface (t : Nat) (p : PV) (v : Value) (h : CRel sg p v) : CRel sg (.iface t p) (.iface t v)
  | func (f : Nat) (a b : List PV) (as bs : Array Value) (va vb : Nat → Value) (hla : as.size = a.length) (hlb : bs.size = b.length)
      (hva : ∀ i, i < a.length → as[i]? = some (va i)) (hvb : ∀ i, i < b.length → bs[i]? = some (vb i))
      (hca : ∀ i (h : i < a.length), CRel sg a[i] (va i)) (hcb : ∀ i (h : i < b.length), CRel sg b[i] (vb i)) : CRel sg (.func f a b) (.func (.func f) as bs)
  | imm (off : Nat) (cells : List PV) (b o : Nat) (vs : Nat → Value) (ho : ∀ i (h : i < cells.length), cells[i].one = true)
      (hs : ∀ i, i < cells.length → sg b (o + i) = some (vs i)) (hc : ∀ i (h : i < cells.length), CRel sg cells[i] (vs i)) :
      CRel sg (.imm off cells) (.pointer (some ⟨b, o + off, none⟩))

def Box.live : Box → Bool
  | .cells _ _ => true
  | .away => true
  | .ro _ => true
  | .iter _ _ => true
  | _ => false

def Box.own : Box → Bool
  | .cells _ _ => true
  | .iter _ _ => true
  | _ => false

def Box.isHole : Box → Bool
  | .hole => true
  | _ => false

inductive VRel (C : Conf) (S : St) : PV → Value → Prop
  | clean (p : PV) (v : Value) (h : CRel C.sg p v) : VRel C S p v
  | sid (g n : Nat) (cells : List PV) (b o cap : Nat) (vs : Nat → Value) (hg : g < S.fr.length) (hn : n ≤ cap) (ho : ∀ i (h : i < cells.length), cells[i].one = true)
      (hs : ∀ i, i < cells.length → C.sg b (o + i) = some (vs i)) (hc : ∀ i (h : i < cells.length), CRel C.sg cells[i] (vs i))
      (ht : ∀ len e, S.fr[g]? = some (some (len, e)) → cells.length ≤ len ∧ (cells.length = len → C.ep g = .slice (some ⟨b, o, none⟩) n cap)) :
      VRel C S (.slice (.id g) n cells) (.slice (some ⟨b, o, none⟩) n cap)
  | ptr (i off : Nat) (a : Addr) (b : Box) (hi : S.bx[i]? = some b) (hh : b.isHole = false) (ha : b.live = true → a = ⟨C.be i, off, none⟩) : VRel C S (.ptr i off) (.pointer (some a))
  | ms (i off n w : Nat) (a : Addr) (cap : Nat) (b : Box) (hi : S.bx[i]? = some b) (hh : b.isHole = false) (hn : n ≤ cap) (ha : b.live = true → 0 < n → a = ⟨C.be i, off, none⟩ ∧ ∃ z, w = n * z ∧ off + cap * z ≤ C.sz i) :
      VRel C S (.ms i off n w) (.slice (some a) n cap)
  | agg (cells : List PV) (cs : Array Value) (vs : Nat → Value) (hl : cs.size = cells.length) (ho : ∀ i (h : i < cells.length), cells[i].one = true)
      (hv : ∀ i, i < cells.length → cs[i]? = some (vs i)) (hc : ∀ i (h : i < cells.length), VRel C S cells[i] (vs i)) : VRel C S (.agg cells) (.agg cs)
  | tup (cells : List PV) (cs : Array Value) (vs : Nat → Value) (hl : cs.size = cells.length)
      (hv : ∀ i, i < cells.length → cs[i]? = some (vs i)) (hc : ∀ i (h : i < cells.length), VRel C S cells[i] (vs i)) : VRel C S (.tup cells) (.tuple cs)
  | func (f : Nat) (a b : List PV) (as bs : Array Value) (va vb : Nat → Value) (hla : as.size = a.length) (hlb : bs.size = b.length)
      (hva : ∀ i, i < a.length → as[i]? = some (va i)) (hvb : ∀ i, i < b.length → bs[i]? = some (vb i))
      (hca : ∀ i (h : i < a.length), VRel C S a[i] (va i)) (hcb : ∀ i (h : i < b.length), VRel C S b[i] (vb i)) : VRel C S (.func f a b) (.func (.func f) as bs)

def SgLe (sg sg' : Nat → Nat → Option Value) : Prop := ∀ b k v, sg b k = some v → sg' b k = some v

theorem SgLe.refl (sg : Nat → Nat → Option Value) : SgLe sg sg := fun _ _ _ h => h
theorem SgLe.trans {a b c : Nat → Nat → Option Value} (h : SgLe a b) (h' : SgLe b c) : SgLe a c := fun x y v e => h' x y v (h x y v e)

theorem CRel.mono {sg sg' : Nat → Nat → Option Value} (hs : SgLe sg sg') {p : PV} {v : Value} (h : CRel sg p v) : CRel sg' p v := by
  induction h with
  | int k n => exact .int k n
  | bool b => exact .bool b
  | str s => exact .str s
  | nilptr => exact .nilptr
  | nilslice => exact .nilslice
  | niliface => exact .niliface
  | nilfunc => exact .nilfunc
  | sh n cells b o cap vs hn ho h1 h2 ih => exact .sh n cells b o cap vs hn ho (fun i hi => hs _ _ _ (h1 i hi)) ih
  | full n cells b o vs ho h1 h2 ih => exact .full n cells b o vs ho (fun i hi => hs _ _ _ (h1 i hi)) ih
  | she a cap => exact .she a cap
  | fulle a => exact .fulle a
  | agg cells cs vs hl ho hv hc ih => exact .agg cells cs vs hl ho hv ih
  | tup cells cs vs hl hv hc ih => exact .tup cells cs vs hl hv ih
  | iface t p v h ih => exact .iface t p v ih
  | func f a b as bs va vb hla hlb hva hvb hca hcb iha ihb => exact .func f a b as bs va vb hla hlb hva hvb iha ihb
  | imm off cells b o vs ho h1 h2 ih => exact .imm off cells b o vs ho (fun i hi => hs _ _ _ (h1 i hi)) ih

/-- What is known later goes on from what is known now. -/
structure Ext (C : Conf) (S : St) (C' : Conf) (S' : St) : Prop where
  sg : SgLe C.sg C'.sg
  bx : ∀ i b, S.bx[i]? = some b → b.isHole = false → ∃ b', S'.bx[i]? = some b' ∧ b'.isHole = false ∧ (b'.live = true → b.live = true ∧ C'.be i = C.be i ∧ C'.sz i = C.sz i)
  fr : ∀ g, g < S.fr.length → g < S'.fr.length ∧ ∀ len e, S'.fr[g]? = some (some (len, e)) → ∃ len0, S.fr[g]? = some (some (len0, e)) ∧ len0 ≤ len ∧ (len0 = len → C'.ep g = C.ep g)
  len : S.bx.length ≤ S'.bx.length
  aw : ∀ i : Nat, S.bx[i]? = some Box.away → S'.bx[i]? = some Box.away
  ro : ∀ (i : Nat) l, S'.bx[i]? = some (Box.ro l) → S.bx[i]? = some (Box.ro l)

theorem Ext.refl (C : Conf) (S : St) : Ext C S C S :=
  ⟨SgLe.refl _, fun i b h hh => ⟨b, h, hh, fun hl => ⟨hl, rfl, rfl⟩⟩, fun g hg => ⟨hg, fun len e h => ⟨len, h, Nat.le_refl _, fun _ => rfl⟩⟩, Nat.le_refl _, fun _ h => h, fun _ _ h => h⟩

theorem Ext.trans {C C1 C2 : Conf} {S S1 S2 : St} (h : Ext C S C1 S1) (h' : Ext C1 S1 C2 S2) : Ext C S C2 S2 := by
  refine ⟨h.sg.trans h'.sg, ?_, ?_, Nat.le_trans h.len h'.len, fun i hi => h'.aw i (h.aw i hi), fun i l hl => h.ro i l (h'.ro i l hl)⟩
  · intro i b hb hh
    obtain ⟨b1, hb1, hh1, hl1⟩ := h.bx i b hb hh
    obtain ⟨b2, hb2, hh2, hl2⟩ := h'.bx i b1 hb1 hh1
    exact ⟨b2, hb2, hh2, fun hl => ⟨(hl1 (hl2 hl).1).1, (hl2 hl).2.1.trans (hl1 (hl2 hl).1).2.1, (hl2 hl).2.2.trans (hl1 (hl2 hl).1).2.2⟩⟩
  · intro g hg
    obtain ⟨hg1, h1⟩ := h.fr g hg
    obtain ⟨hg2, h2⟩ := h'.fr g hg1
    refine ⟨hg2, fun len e he => ?_⟩
    obtain ⟨l1, he1, hle1, heq1⟩ := h2 len e he
    obtain ⟨l0, he0, hle0, heq0⟩ := h1 l1 e he1
    exact ⟨l0, he0, Nat.le_trans hle0 hle1, fun hh => (heq1 (by omega)).trans (heq0 (by omega))⟩

theorem VRel.mono {C C' : Conf} {S S' : St} (x : Ext C S C' S') {p : PV} {v : Value} (h : VRel C S p v) : VRel C' S' p v := by
  induction h with
  | clean p v h => exact .clean p v (h.mono x.sg)
  | sid g n cells b o cap vs hg hn ho hs hc ht =>
    refine .sid g n cells b o cap vs (x.fr g hg).1 hn ho (fun i hi => x.sg _ _ _ (hs i hi)) (fun i hi => (hc i hi).mono x.sg) (fun len e he => ?_)
    obtain ⟨l0, he0, hle, heq⟩ := (x.fr g hg).2 len e he
    obtain ⟨h1, h2⟩ := ht l0 e he0
    exact ⟨Nat.le_trans h1 hle, fun hh => (heq (by omega)).trans (h2 (by omega))⟩
  | ptr i off a b hi hh ha =>
    obtain ⟨b', hb', hh', hl⟩ := x.bx i b hi hh
    exact .ptr i off a b' hb' hh' (fun h => by rw [(hl h).2.1]; exact ha (hl h).1)
  | ms i off n w a cap b hi hh hn ha =>
    obtain ⟨b', hb', hh', hl⟩ := x.bx i b hi hh
    exact .ms i off n w a cap b' hb' hh' hn (fun h h0 => by rw [(hl h).2.1, (hl h).2.2]; exact ha (hl h).1 h0)
  | agg cells cs vs hl ho hv hc ih => exact .agg cells cs vs hl ho hv ih
  | tup cells cs vs hl hv hc ih => exact .tup cells cs vs hl hv ih
  | func f a b as bs va vb hla hlb hva hvb hca hcb iha ihb => exact .func f a b as bs va vb hla hlb hva hvb iha ihb

/-- Some cells read as values. -/
def Reads (C : Conf) (S : St) (f : Nat → Option Value) (l : List PV) : Prop :=
  ∀ k (h : k < l.length), ∃ v, f k = some v ∧ VRel C S l[k] v ∧ l[k].one = true

theorem Reads.mono {C C' : Conf} {S S' : St} (x : Ext C S C' S') {f : Nat → Option Value} {l : List PV} (h : Reads C S f l) : Reads C' S' f l :=
  fun k hk => let ⟨v, h1, h2, h3⟩ := h k hk; ⟨v, h1, h2.mono x, h3⟩

/-- Where a call begins: the world, what was known, and the places that are kept for others. -/
structure Base extends World where
  sg0 : Nat → Nat → Option Value
  hl : Nat → Prop

/-- Nothing is told outside. -/
def Still (w w' : World) : Prop := w'.os = w.os ∧ w'.output = w.output

theorem Still.trans {a b c : World} (h : Still a b) (h' : Still b c) : Still a c := ⟨h'.1.trans h.1, h'.2.trans h.2⟩

structure WRel (C : Conf) (S : St) (w0 : Base) (N : Nat → Prop) (w : World) : Prop where
  sg : ∀ b k v, C.sg b k = some v → w.cell? ⟨b, k, none⟩ = some v
  cells : ∀ i t l, S.bx[i]? = some (.cells t l) → ∃ vs : Array Value, w.heap[C.be i]? = some (.cells vs t (0, 0)) ∧ l.length ≤ vs.size ∧ vs.size = C.sz i ∧ Reads C S (fun k => vs[k]?) l
  ro : ∀ i l, S.bx[i]? = some (.ro l) → ¬ N (C.be i) ∧ ∃ vs t fz, w0.heap[C.be i]? = some (.cells vs t fz) ∧ l.length ≤ vs.size ∧ vs.size = C.sz i ∧ Reads C S (fun k => vs[k]?) l
  iter : ∀ i l pos, S.bx[i]? = some (.iter l pos) → ∃ s, w.heap[C.be i]? = some (.stringIter s pos) ∧ bytesL s = l
  inj : ∀ i j b b', S.bx[i]? = some b → S.bx[j]? = some b' → b.own = true → b'.own = true → C.be i = C.be j → i = j
  sep : ∀ i b, S.bx[i]? = some b → b.own = true → ∀ k, C.sg (C.be i) k = none
  ids : ∀ g len e, S.fr[g]? = some (some (len, e)) → ∃ b n cap sz cur, C.ep g = .slice (some ⟨b, 0, none⟩) n cap ∧ w.heap[b]? = some (.cells cur e (0, 0)) ∧
      n ≤ cap ∧ cap ≤ maxLen ∧ cur.size = cap * sz ∧ (len = n * sz ∧ (0 < n ∨ sz = 1)) ∧ (∀ k, len ≤ k → C.sg b k = none) ∧ (∀ i x, S.bx[i]? = some x → x.own = true → C.be i ≠ b)
  idinj : ∀ g g' x x' b b' o o' n n' c c', S.fr[g]? = some (some x) → S.fr[g']? = some (some x') → C.ep g = .slice (some ⟨b, o, none⟩) n c → C.ep g' = .slice (some ⟨b', o', none⟩) n' c' → b = b' → g = g'
  size : w0.heap.size ≤ w.heap.size
  keep : ∀ b, b < w0.heap.size → ¬ N b → w.heap[b]? = w0.heap[b]?
  ownN : ∀ i b, S.bx[i]? = some b → b.own = true → N (C.be i) ∨ w0.heap.size ≤ C.be i
  idN : ∀ g x b o n c, S.fr[g]? = some (some x) → C.ep g = .slice (some ⟨b, o, none⟩) n c → N b ∨ w0.heap.size ≤ b
  known : ∀ b k v, C.sg b k = some v → w0.sg0 b k = some v ∨ N b ∨ w0.heap.size ≤ b
  hole : ∀ i, w0.hl i → S.bx[i]? = some .hole
  still : Still w0.toWorld w

/-- The listed variables read as the machine has them. -/
def GRel (E : Env) (sg : Nat → Nat → Option Value) : Prop :=
  ∀ g l, E.glob g = some l → ∃ vs : Nat → Value, (∀ i (h : i < l.length), l[i].one = true) ∧ (∀ i, i < l.length → sg g i = some (vs i)) ∧ (∀ i (h : i < l.length), CRel sg l[i] (vs i))

theorem GRel.mono {E : Env} {sg sg' : Nat → Nat → Option Value} (h : GRel E sg) (x : SgLe sg sg') : GRel E sg' := fun g l hg =>
  let ⟨vs, h1, h2, h3⟩ := h g l hg; ⟨vs, h1, fun i hi => x _ _ _ (h2 i hi), fun i hi => (h3 i hi).mono x⟩

def RRel (C : Conf) (S : St) (n : Nat) (regs : Regs) (tmps : Array Value) : Prop :=
  tmps.size = n ∧ ∀ t, VRel C S (getR t regs) (tmps.getD t Go.undef)

theorem RRel.mono {C C' : Conf} {S S' : St} (x : Ext C S C' S') {n : Nat} {regs : Regs} {tmps : Array Value} (h : RRel C S n regs tmps) : RRel C' S' n regs tmps :=
  ⟨h.1, fun t => (h.2 t).mono x⟩

theorem crel_undef (sg : Nat → Nat → Option Value) : CRel sg undef Go.undef :=
  .tup [] #[] (fun _ => Go.undef) rfl (fun i h => by cases h) (fun i h => by cases h)

theorem vrel_undef (C : Conf) (S : St) : VRel C S undef Go.undef := .clean _ _ (crel_undef _)

theorem RRel.put {C : Conf} {S : St} {n : Nat} {regs regs' : Regs} {tmps : Array Value} {d : Option Nat} {p : PV} {v : Value}
    (h : RRel C S n regs tmps) (hv : VRel C S p v) (hp : putR n regs d p = some regs') (D : List Deferred) :
    RRel C S n regs' (({ tmps := tmps, defers := D } : Act).put d v).tmps := by
  cases d with
  | none => simp [putR] at hp; subst hp; exact h
  | some t =>
    simp only [putR, cond_eq_ite, Bool.and_eq_true, Nat.blt_eq] at hp
    split at hp
    · rename_i hlt
      simp at hp; subst hp
      refine ⟨by simp [Act.put, h.1], fun u => ?_⟩
      simp only [Act.put, getR_setR hlt.2]
      by_cases e : t = u
      · subst e
        have hlt' : t < tmps.size := by rw [h.1]; exact hlt.1
        simpa [Array.getD_eq_getD_getElem?, hlt'] using hv
      · rw [if_neg (fun h => e h.symm)]
        have := h.2 u
        simpa [Array.getD_eq_getD_getElem?, Array.getElem?_setIfInBounds_ne e] using this
    · cases hp

end Go.Am

/- Small steps from the relations: cells of a value, parts of rows, what is told of types. No condition. -/
namespace Go.Am

theorem nat_beq {a b : Nat} : Nat.beq a b = true ↔ a = b := ⟨Nat.eq_of_beq_eq_true, fun h => by subst h; exact Nat.beq_refl a⟩

theorem CRel.one {sg : Nat → Nat → Option Value} {p : PV} {v : Value} (h : CRel sg p v) (ho : p.one = true) : v.oneCell' = true := by
  cases h <;> first | rfl | simp [PV.one] at ho

theorem VRel.one {C : Conf} {S : St} {p : PV} {v : Value} (h : VRel C S p v) (ho : p.one = true) : v.oneCell' = true := by
  cases h with
  | clean _ _ h => exact h.one ho
  | agg => simp [PV.one] at ho
  | tup => simp [PV.one] at ho
  | _ => rfl

theorem Reads.clean {C : Conf} {S : St} {l : List PV} {f : Nat → Option Value} {vs : Nat → Value} (ho : ∀ i (h : i < l.length), l[i].one = true)
    (hs : ∀ i, i < l.length → f i = some (vs i)) (hc : ∀ i (h : i < l.length), CRel C.sg l[i] (vs i)) : Reads C S f l :=
  fun k hk => ⟨vs k, hs k hk, .clean _ _ (hc k hk), ho k hk⟩

theorem Reads.part {C : Conf} {S : St} {l : List PV} {f : Nat → Option Value} (h : Reads C S f l) (off n : Nat) : Reads C S (fun k => f (off + k)) ((l.drop off).take n) := by
  intro k hk
  simp only [List.length_take, List.length_drop] at hk
  obtain ⟨v, h1, h2, h3⟩ := h (off + k) (by omega)
  exact ⟨v, h1, by simpa using h2, by simpa using h3⟩

theorem Reads.drop {C : Conf} {S : St} {l : List PV} {f : Nat → Option Value} (h : Reads C S f l) (off : Nat) : Reads C S (fun k => f (off + k)) (l.drop off) := by
  intro k hk
  simp only [List.length_drop] at hk
  obtain ⟨v, h1, h2, h3⟩ := h (off + k) (by omega)
  exact ⟨v, h1, by simpa using h2, by simpa using h3⟩

theorem Reads.congr {C : Conf} {S : St} {l : List PV} {f g : Nat → Option Value} (h : Reads C S f l) (hg : ∀ k, k < l.length → g k = f k) : Reads C S g l :=
  fun k hk => let ⟨v, h1, h2, h3⟩ := h k hk; ⟨v, (hg k hk).trans h1, h2, h3⟩

theorem Reads.append {C : Conf} {S : St} {l m : List PV} {f : Nat → Option Value} (h : Reads C S f l) (h' : Reads C S (fun k => f (l.length + k)) m) : Reads C S f (l ++ m) := by
  intro k hk
  simp only [List.length_append] at hk
  by_cases e : k < l.length
  · obtain ⟨v, h1, h2, h3⟩ := h k e
    exact ⟨v, h1, by simpa [e] using h2, by simpa [e] using h3⟩
  · obtain ⟨v, h1, h2, h3⟩ := h' (k - l.length) (by omega)
    have e2 : l.length + (k - l.length) = k := by omega
    simp only [e2] at h1
    rw [List.getElem_append_right (by omega)]
    exact ⟨v, h1, h2, h3⟩

theorem Reads.nil {C : Conf} {S : St} (f : Nat → Option Value) : Reads C S f [] := fun _ h => by cases h

theorem VRel.reads {C : Conf} {S : St} {p : PV} {v : Value} (h : VRel C S p v) (hf : p.flat = true) : v.cells.size = p.cells.length ∧ Reads C S (fun k => v.cells[k]?) p.cells := by
  by_cases ho : p.one = true
  · have hc : p.cells = [p] := by cases p <;> first | rfl | simp [PV.one] at ho
    have hv : v.cells = #[v] := by
      have := h.one ho
      cases v <;> first | rfl | simp [Value.oneCell'] at this
    rw [hc, hv]
    exact ⟨rfl, fun k hk => by simp at hk; subst hk; exact ⟨v, rfl, h, ho⟩⟩
  · cases h with
    | clean _ _ h =>
      cases h with
      | agg cells cs vs hl ho2 hv hc => exact ⟨hl, Reads.clean ho2 hv hc⟩
      | tup => simp [PV.flat] at hf
      | _ => simp [PV.one] at ho
    | agg cells cs vs hl ho' hv hc => exact ⟨hl, fun k hk => ⟨vs k, hv k hk, hc k hk, ho' k hk⟩⟩
    | tup => simp [PV.flat] at hf
    | _ => simp [PV.one] at ho

theorem Reads.toAgg {C : Conf} {S : St} {l : List PV} {cs : Array Value} (h : Reads C S (fun k => cs[k]?) l) (hl : cs.size = l.length) : VRel C S (.agg l) (.agg cs) := by
  refine .agg l cs (fun k => cs.getD k Go.undef) hl (fun i hi => (h i hi).choose_spec.2.2) (fun i hi => ?_) (fun i hi => ?_)
  · have : i < cs.size := by omega
    simp [Array.getD_eq_getD_getElem?, this]
  · obtain ⟨v, h1, h2, _⟩ := h i hi
    simpa [Array.getD_eq_getD_getElem?, h1] using h2

/-- What a type's row tells is so. -/
structure TIok (P : Program) (t : Nat) (ti : TI) : Prop where
  info : ∃ i z, P.info? t = some i ∧ i.size = ti.size ∧ i.bytes = ti.bytes ∧ i.zero = some z ∧ ofCells z.cells.toList = some ti.zero ∧ i.comparable = ti.cmp ∧ ti.zero.length = ti.size ∧ (ti.agg = true ↔ ∃ cs, z = .agg cs)
  eqg : ti.eqg = true → P.eqGuardType P.depth t = false ∧ P.stoodInHeld t = false ∧ ∀ F, P.underlying t = some (.struct F) → ∀ f ∈ F.toList, f.name ≠ "_"
  kind : match ti.kind with
    | .int k => P.underlying t = some (.int k)
    | .bool => P.underlying t = some .bool
    | .str => P.underlying t = some .string
    | .ptr e => P.underlying t = some (.pointer e)
    | .unsafep => P.underlying t = some .unsafePointer
    | .slice e => P.underlying t = some (.slice e)
    | .arr n e => P.underlying t = some (.array n e)
    | .struct fs => ∃ F, P.underlying t = some (.struct F) ∧ F.toList.map (fun f => (f.offset, f.type)) = fs ∧ ∀ f ∈ F.toList, (P.info? f.type).isSome = true
    | .iface n => ∃ ms, P.underlying t = some (.interface ms) ∧ ms.size = n
    | .func => ∃ a b c, P.underlying t = some (.func a b c)
    | .tuple => ∃ a, P.underlying t = some (.tuple a)
    | .other => False

structure EOk (P : Program) (E : Env) : Prop where
  tt : ∀ t ti, E.tt t = some ti → TIok P t ti
  fn : ∀ f fn, E.fn f = some fn → P.funcs[f]? = some fn ∧ (fn.name == "runtime.NumGoroutine") = false
  sane : ∀ f fn c, E.fn f = some fn → fn.body = some c → saneCode c = true
  mixed : P.follows .mixedOrders = true

theorem TIok.desc {P : Program} {t : Nat} {ti : TI} (h : TIok P t ti) : ∃ d, P.underlying t = some d := by
  have := h.kind
  cases hk : ti.kind <;> simp only [hk] at this
  case struct fs => exact ⟨_, this.choose_spec.1⟩
  case iface n => exact ⟨_, this.choose_spec.1⟩
  case func => obtain ⟨a, b, c, h⟩ := this; exact ⟨_, h⟩
  case tuple => obtain ⟨a, h⟩ := this; exact ⟨_, h⟩
  all_goals exact ⟨_, this⟩

theorem TIok.isAgg {P : Program} {t : Nat} {ti : TI} (h : TIok P t ti) (w : World) : (Go.isAgg t).run P w = .ok ti.agg w := by
  have := h.kind
  unfold TI.agg
  cases hk : ti.kind <;> simp only [hk] at this
  case struct fs => obtain ⟨F, h1, _, _⟩ := this; simp [Go.isAgg, underlying, h1, TK.agg]
  case iface n => obtain ⟨F, h1, _⟩ := this; simp [Go.isAgg, underlying, h1, TK.agg]
  case func => obtain ⟨a, b, c, h1⟩ := this; simp [Go.isAgg, underlying, h1, TK.agg]
  case tuple => obtain ⟨a, h1⟩ := this; simp [Go.isAgg, underlying, h1, TK.agg]
  all_goals simp [Go.isAgg, underlying, this, TK.agg]

theorem TIok.sizeOf {P : Program} {t : Nat} {ti : TI} (h : TIok P t ti) (w : World) : (Go.sizeOf t).run P w = .ok ti.size w := by
  obtain ⟨i, z, h1, h2, _⟩ := h.info
  simp [Go.sizeOf, typeInfo, h1, h2]

theorem TIok.zeroValue {P : Program} {t : Nat} {ti : TI} (h : TIok P t ti) : ∃ z : Value, (∀ w, (Go.zeroValue t).run P w = .ok z w) ∧ ofCells z.cells.toList = some ti.zero ∧ (ti.agg = true ↔ ∃ cs, z = .agg cs) := by
  obtain ⟨i, z, h1, _, _, h4, h5, _, _, h8⟩ := h.info
  exact ⟨z, fun w => by simp [Go.zeroValue, typeInfo, h1, h4], h5, h8⟩

theorem ofCell_rel {sg : Nat → Nat → Option Value} {v : Value} {p : PV} (h : ofCell v = some p) : CRel sg p v ∧ p.one = true := by
  unfold ofCell at h
  split at h <;> simp only [Option.some.injEq, reduceCtorEq] at h <;> subst h
  · exact ⟨.int _ _, rfl⟩
  · exact ⟨.bool _, rfl⟩
  · exact ⟨.str _, rfl⟩
  · exact ⟨.nilptr, rfl⟩
  · exact ⟨.nilslice, rfl⟩
  · exact ⟨.niliface, rfl⟩
  · exact ⟨.nilfunc, rfl⟩

theorem ofCells_rel {sg : Nat → Nat → Option Value} : ∀ {l : List Value} {ps : List PV}, ofCells l = some ps →
    ps.length = l.length ∧ ∀ i (h : i < ps.length), CRel sg ps[i] (l.getD i Go.undef) ∧ ps[i].one = true
  | [], ps, h => by simp [ofCells] at h; subst h; exact ⟨rfl, fun i h => by cases h⟩
  | v :: r, ps, h => by
    unfold ofCells at h
    split at h
    · rename_i x y hx hy
      simp at h; subst h
      obtain ⟨h1, h2⟩ := ofCells_rel (sg := sg) hy
      refine ⟨by simp [h1], fun i hi => ?_⟩
      cases i with
      | zero => simpa using ofCell_rel hx
      | succ i => simpa using h2 i (by simpa using hi)
    · cases h

theorem ofCells_reads {C : Conf} {S : St} {cs : Array Value} {ps : List PV} (h : ofCells cs.toList = some ps) : ps.length = cs.size ∧ Reads C S (fun k => cs[k]?) ps := by
  obtain ⟨h1, h2⟩ := ofCells_rel (sg := C.sg) h
  refine ⟨by simpa using h1, fun k hk => ?_⟩
  have hk' : k < cs.size := by rw [h1] at hk; simpa using hk
  refine ⟨cs[k], by simp [hk'], .clean _ _ ?_, (h2 k hk).2⟩
  have := (h2 k hk).1
  simpa [List.getD, hk'] using this

theorem ofValue_rel {sg : Nat → Nat → Option Value} {v : Value} {p : PV} (h : ofValue v = some p) : CRel sg p v := by
  have cells : ∀ (cs : Array Value) (ps : List PV), ofCells cs.toList = some ps → cs.size = ps.length ∧ (∀ i (h : i < ps.length), ps[i].one = true) ∧
      (∀ i, i < ps.length → cs[i]? = some (cs.toList.getD i Go.undef)) ∧ (∀ i (h : i < ps.length), CRel sg ps[i] (cs.toList.getD i Go.undef)) := by
    intro cs ps hp
    obtain ⟨h1, h2⟩ := ofCells_rel (sg := sg) hp
    refine ⟨by simpa using h1.symm, fun i hi => (h2 i hi).2, fun i hi => ?_, fun i hi => (h2 i hi).1⟩
    have : i < cs.size := by rw [h1] at hi; simpa using hi
    simp [List.getD, this]
  unfold ofValue at h
  split at h
  · rename_i cs
    cases hq : ofCells cs.toList with
    | none => simp [hq] at h
    | some ps =>
      simp [hq] at h; subst h
      obtain ⟨h1, h2, h3, h4⟩ := cells cs ps hq
      exact .agg _ _ _ h1 h2 h3 h4
  · rename_i cs
    cases hq : ofCells cs.toList with
    | none => simp [hq] at h
    | some ps =>
      simp [hq] at h; subst h
      obtain ⟨h1, _, h3, h4⟩ := cells cs ps hq
      exact .tup _ _ _ h1 h3 h4
  · exact (ofCell_rel h).1

theorem evalO_rel {E : Env} {C : Conf} {S : St} {n : Nat} {regs : Regs} {a : Act} (hr : RRel C S n regs a.tmps) (hg : GRel E C.sg) {x : Operand} {p : PV}
    (h : evalO E regs x = some p) : VRel C S p (a.eval x) := by
  cases x with
  | tmp t =>
    simp only [evalO, Option.some.injEq] at h
    subst h
    have := hr.2 t
    simpa [Act.eval, Array.getD_eq_getD_getElem?] using this
  | const v =>
    simp only [evalO] at h
    exact .clean _ _ (ofValue_rel h)
  | global g =>
    simp only [evalO] at h
    cases hq : E.glob g with
    | none => simp [hq] at h
    | some l =>
      simp [hq] at h; subst h
      obtain ⟨vs, h1, h2, h3⟩ := hg g l hq
      exact .clean _ _ (.imm 0 l g 0 vs h1 (fun i hi => by simpa using h2 i hi) h3)
  | func f =>
    simp only [evalO, Option.some.injEq] at h
    subst h
    exact .clean _ _ (.func f [] [] #[] #[] (fun _ => Go.undef) (fun _ => Go.undef) rfl rfl (fun i h => by cases h) (fun i h => by cases h) (fun i h => by cases h) (fun i h => by cases h))

end Go.Am
