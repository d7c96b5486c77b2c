/- TE: a small evaluator over the model's own Code, on plain values: definitions. -/
import Derived.Orders
namespace TE
open Go

/-- The element types of slices: codes and the plain types behind them. -/
structure Sig where
  K : Type
  El : K → Type
  deq : DecidableEq K
  /-- codes of which an empty plain slice has no room -/
  tight : K → Bool
instance (S : Sig) : DecidableEq S.K := S.deq

inductive TV (S : Sig) : Type
  | dead
  | undef
  | bool (b : Bool)
  | int (k : IntKind) (n : Int)
  | str (s : List UInt8)
  | nilp
  | ptr (nm i k : Nat)
  | iptr (c : S.K) (x : S.El c) (k : Nat)
  | nils
  | slw (nm : Nat)
  | sl (nm off len : Nat)
  /-- a part of a row of raw cells -/
  | rs (nm off len : Nat)
  | tree (c : S.K) (xs : List (S.El c))
  | nilm
  | map (nm : Nat)
  | nilf
  | fn (f : FuncId) (cap : List (TV S))
  /-- a method's value: with its first arguments -/
  | mv (f : FuncId) (first : List (TV S))
  | nili
  | iface (t : TypeId) (v : TV S)
  | agg (cs : List (TV S))
  | tup (vs : List (TV S))
instance {S : Sig} : Inhabited (TV S) := ⟨.dead⟩

inductive RM | own | app | ro
  deriving DecidableEq

/-- A scalar in a map's key. -/
inductive Sc : Type
  | bool (b : Bool)
  | int (k : IntKind) (n : Int)
  | str (s : List UInt8)
  deriving DecidableEq
inductive ScK : Type
  | bool
  | int (k : IntKind)
  | str
  deriving DecidableEq
def Sc.kind : Sc → ScK
  | .bool _ => .bool
  | .int k _ => .int k
  | .str _ => .str
/-- has a key this shape? -/
def shaped (sh : List ScK) (k : List Sc) : Bool := decide (k.map Sc.kind = sh)

/-- What a deep row holds: all; all but one that is taken out; whatever. -/
inductive DX (α : Type)
  | full (xs : List α)
  | hole (xs : List α) (i : Nat)
  | gen (xs : List (Option α))
def DX.get {α : Type} : DX α → List (Option α)
  | .full xs => xs.map some
  | .hole xs i => (xs.map some).set i none
  | .gen xs => xs
def DX.len {α : Type} : DX α → Nat
  | .full xs => xs.length
  | .hole xs _ => xs.length
  | .gen xs => xs.length

theorem DX.get_len {α : Type} (d : DX α) : d.get.length = d.len := by cases d <;> simp [DX.get, DX.len]
inductive Obj (S : Sig) : Type
  | gone
  | box (cs : List (TV S))
  /-- a row of raw cells, s to an element; room behind it may be -/
  | raw (s : Nat) (cs : List (TV S))
  | row (c : S.K) (xs : List (S.El c)) (m : RM)
  /-- a row of which the rows within are its own, too; none: what was there is taken out -/
  | deep (c : S.K) (xs : DX (S.El c))
  /-- a map: are its keys aggregates, its values; the entries with their stamps; are order and stamps just these; the clock -/
  | mapo (ag : Bool) (sh : List ScK) (vag : Bool) (vc : S.K) (L : List (List Sc × S.El vc × Nat)) (ex : Bool) (clock : Nat)
  /-- an iterator over the map nm -/
  | iter (nm since : Nat) (seen : List Nat) (stepped : Nat)

/-- What a call comes to: the value; the objects handed in, as they are now (none: untouched); new objects. -/
structure Res (S : Sig) where
  v : TV S
  xs : Option (List (Obj S))
  ns : List (Obj S)

/-- What becomes of a slice at a loop's head or at a function's end: nil becomes an empty row, or all becomes a plain list. -/
inductive LK (S : Sig)
  | row (c : S.K) (m : RM)
  | tree (c : S.K)
  /-- nil becomes an empty row; a row that may be appended to, or is the call's own, becomes a new object -/
  | fresh (c : S.K) (m : RM)
  /-- nil becomes an empty deep row -/
  | deep (c : S.K)
/-- A place: a slot; a cell of the box to which a slot points; and so on. -/
structure Tgt where
  slot : Nat
  path : List Nat

structure St (S : Sig) where
  t : Nat → TV S
  o : Nat → Option (Obj S)
  next : Nat
inductive Ex | normal | exit (id : Nat) | ret

/-- What is told of a loop: which slots live on at its head; what becomes of slices there; what the loop comes to, if that is known. -/
structure LHint (S : Sig) where
  live : List Nat
  fix : List (Tgt × LK S) := []
  /-- the same where the loop is left -/
  out : Ex → List Nat × List (Tgt × LK S)
  oracle : Option ((R : Type) → List (TV S) → List (Obj S) → (Ex → List (TV S) → List (Obj S) → Option R) → Option R) := none

/-- What evaluation is told of one function: of each loop (by its block's number) which slots live on at its head, and what becomes of slices there; the mode of rows, by the slot that is written; what becomes of slices at the end. -/
structure Hint (S : Sig) where
  loops : Nat → Option (LHint S) := fun _ => none
  mode : Nat → RM := fun _ => .app
  exit : List (Tgt × LK S) := []
  /-- at a test that guards operations: go one way alone -/
  fork : Bool := false
  /-- do ranges over maps go all ways? -/
  nd : Bool := false
  /-- of the second part of a row of code, by the number of its first region: where to begin anew with the slots that live -/
  cuts : Nat → Option (LHint S) := fun _ => none
  /-- calls with more than one outcome (where ranges go all ways): of which functions, and what is said of them -/
  multi : FuncId → Bool := fun _ => false
  callm : FuncId → List (TV S) → List (Obj S) → (R : Type) → (Res S → Option R) → Option R := fun _ _ _ _ _ => none
  /-- regions with a drawn order that hold calls with more than one outcome: the order in which they are told -/
  dr : Nat → Option (List Nat) := fun _ => none

structure Env (S : Sig) where
  P : Program
  enc : (c : S.K) → S.El c → List (TV S)
  dec : (c : S.K) → List (TV S) → Option (S.El c)
  sz : S.K → Nat
  code : TypeId → Option S.K
  /-- types that keys of maps may have: are they aggregates, and their scalars -/
  keyTy : TypeId → Option (Bool × List ScK)
  callf : FuncId → List (TV S) → List (Obj S) → (R : Type) → (Res S → Option R) → Option R
  /-- which functions take a slice argument as an object (true) and not as a plain list -/
  asObj : FuncId → Nat → Bool
  /-- which cells of an element are rows that a deep row owns, too -/
  sub : S.K → Nat → Bool := fun _ _ => false
  /-- slices of which elements lie in raw cells -/
  raw : TypeId → Bool := fun _ => false

structure Eff (S : Sig) where
  v : TV S
  rd : List Nat
  wr : List (Nat × Obj S)
  nx : Nat

variable {S : Sig}

def setF {α : Type} (f : Nat → α) (d : Nat) (v : α) : Nat → α := fun n => bif Nat.beq n d then v else f n
theorem setF_self {α : Type} (f : Nat → α) (d : Nat) (v : α) : setF f d v d = v := by
  unfold setF
  rw [Nat.beq_refl]; rfl
theorem setF_ne {α : Type} (f : Nat → α) {d n : Nat} (v : α) (h : n ≠ d) : setF f d v n = f n := by
  have : Nat.beq n d = false := by
    cases hb : Nat.beq n d with
    | false => rfl
    | true => exact absurd (Nat.eq_of_beq_eq_true hb) h
  unfold setF
  rw [this]; rfl
def hasN (i : Nat) : List Nat → Bool
  | [] => false
  | x :: r => bif Nat.beq i x then true else hasN i r
def setAll {α : Type} (f : Nat → Option α) : List (Nat × α) → Nat → Option α
  | [] => f
  | (n, o) :: r => setAll (setF f n (some o)) r

def ofVal : Value → TV S
  | .bool b => .bool b
  | .int k n => .int k n
  | .string s => .str s.data.toList
  | .pointer none => .nilp
  | .slice none 0 0 => .nils
  | .map none => .nilm
  | .nilFunc => .nilf
  | .nilIface => .nili
  | _ => .dead

def constT : Value → TV S
  | .agg vs => .agg (vs.toList.map ofVal)
  | v => ofVal v
def ev (t : Nat → TV S) : Operand → TV S
  | .tmp i => t i
  | .const v => constT v
  | .func f => .fn f []
  | .global _ => .dead

/-- May this list be a plain slice, whatever room is behind it? -/
def tok {S : Sig} (c : S.K) (xs : List (S.El c)) : Bool := !S.tight c || !xs.isEmpty
/-- The same for a whole row, by its mode. -/
def tokM {S : Sig} (c : S.K) (xs : List (S.El c)) : RM → Bool
  | .app => true
  | _ => tok c xs
/-- A cell's value without names: a slice of an object becomes the plain list. -/
def pureOf (o : Nat → Option (Obj S)) : TV S → Option (TV S)
  | .slw nm => match o nm with
    | some (.row c xs m) => if tokM c xs m = true then some (.tree c xs) else none
    | _ => none
  | .sl nm off len => match o nm with
    | some (.row c xs _) => if tok c ((xs.drop off).take len) = true then some (.tree c ((xs.drop off).take len)) else none
    | _ => none
  | .bool b => some (.bool b)
  | .int k n => some (.int k n)
  | .str s => some (.str s)
  | .nilp => some .nilp
  | .nils => some .nils
  | .tree c xs => some (.tree c xs)
  | .nilm => some .nilm
  | .nilf => some .nilf
  | .nili => some .nili
  | _ => none
def rowName : TV S → List Nat
  | .slw nm => [nm]
  | .sl nm _ _ => [nm]
  | _ => []
/-- the rows that are frozen when a value goes into a row -/
def freezes (o : Nat → Option (Obj S)) (ns : List Nat) : List (Nat × Obj S) :=
  ns.filterMap fun n => match o n with
    | some (.row c xs .own) => some (n, .row c xs .ro)
    | _ => none
def cellsOf : TV S → List (TV S)
  | .agg cs => cs
  | v => [v]

/-- An element out of a value. -/
def elem (E : Env S) (o : Nat → Option (Obj S)) (c : S.K) (v : TV S) : Option (S.El c) :=
  ((cellsOf v).mapM (pureOf o)).bind (E.dec c)

def castRow {c d : S.K} (h : c = d) (xs : List (S.El c)) : List (S.El d) := h ▸ xs

/-- What a slice holds, as a list of the elements of code c. -/
def listOf (o : Nat → Option (Obj S)) (c : S.K) : TV S → Option (List (S.El c))
  | .nils => some []
  | .slw nm => match o nm with
    | some (.row d xs _) => if h : d = c then some (castRow h xs) else none
    | _ => none
  | .sl nm off len => match o nm with
    | some (.row d xs _) => if h : d = c then some (((castRow h xs).drop off).take len) else none
    | _ => none
  | .tree d xs => if h : d = c then some (castRow h xs) else none
  | _ => none

def lenOf (o : Nat → Option (Obj S)) : TV S → Option Nat
  | .nils => some 0
  | .slw nm => match o nm with
    | some (.row _ xs _) => some xs.length
    | some (.deep _ xs) => some xs.len
    | _ => none
  | .sl nm _ len => match o nm with
    | some (.row _ _ _) => some len
    | some (.box _) => some len
    | _ => none
  | .tree _ xs => some xs.length
  | .str s => some s.length
  | .nilm => some 0
  | _ => none

def codeIs (E : Env S) (e : TypeId) (c : S.K) : Bool :=
  match E.code e with
  | some d => decide (d = c)
  | none => false
/-- Is it a slice of elements of this type? -/
def sliceOf (E : Env S) (o : Nat → Option (Obj S)) (e : TypeId) : TV S → Bool
  | .nils => (E.code e).isSome
  | .tree c _ => codeIs E e c
  | .slw nm => match o nm with
    | some (.row c _ _) => codeIs E e c
    | _ => false
  | .sl nm _ _ => match o nm with
    | some (.row c _ _) => codeIs E e c
    | _ => false
  | _ => false
def isStr : TV S → Bool
  | .str _ => true
  | _ => false

def isAggD : TypeDesc → Bool
  | .struct _ | .array _ _ => true
  | _ => false
/-- Is a type an aggregate, and how many cells has it? -/
def tyOf (P : Program) (t : TypeId) : Option (Bool × Nat) :=
  match P.info? t, P.underlying t with
  | some i, some d => some (isAggD d, i.size)
  | _, _ => none

def takeCells (agg : Bool) (n k : Nat) (cs : List (TV S)) : Option (TV S) :=
  if agg then (if k + n ≤ cs.length then some (.agg ((cs.drop k).take n)) else none) else cs[k]?

/-- The cells behind an address: they and the name that is read. -/
def behind (E : Env S) (o : Nat → Option (Obj S)) : TV S → Option (List (TV S) × Nat × List Nat)
  | .ptr nm i k => match o nm with
    | some (.box cs) => if i = 0 then some (cs, k, [nm]) else none
    | some (.row c xs _) => (xs[i]?).map fun x => (E.enc c x, k, [nm])
    | _ => none
  | .iptr c x k => some (E.enc c x, k, [])
  | _ => none

def setCells (cs : List (TV S)) (k : Nat) : List (TV S) → List (TV S)
  | [] => cs
  | v :: r => setCells (cs.set k v) (k + 1) r

def allStr : List (TV S) → Option (List (List UInt8))
  | [] => some []
  | .str s :: r => (allStr r).map (s :: ·)
  | _ :: _ => none
def allInt (k : IntKind) : List (TV S) → Option (List Int)
  | [] => some []
  | .int k' n :: r => if k = k' then (allInt k r).map (n :: ·) else none
  | _ :: _ => none

/-- One cell of a box: its number may be any if all are texts, or all are numbers. -/
def cellK {R : Type} (cs : List (TV S)) (n : Nat) (k : TV S → Option R) : Option R :=
  match allStr cs with
  | some l => (l[n]?).bind fun s => k (.str s)
  | none => match allInt .i64 cs with
    | some l => (l[n]?).bind fun s => k (.int .i64 s)
    | none => match cs[n]? with
      | some v => k v
      | none => none

def bytesLess : List UInt8 → List UInt8 → Bool
  | _, [] => false
  | [], _ :: _ => true
  | a :: x, b :: y => a < b || (a == b && bytesLess x y)

def intOp (op : BinOp) (k : IntKind) (a b : Int) : Option (TV S) :=
  match op with
  | .add => some (.int k (k.wrap (a + b)))
  | .sub => some (.int k (k.wrap (a - b)))
  | .mul => some (.int k (k.wrap (a * b)))
  | .quo => if b = 0 then none else some (.int k (k.wrap (a.tdiv b)))
  | .rem => if b = 0 then none else some (.int k (a.tmod b))
  | .and => some (.int k (k.wrap (BitVec.ofInt k.bits a &&& BitVec.ofInt k.bits b).toNat))
  | .or => some (.int k (k.wrap (BitVec.ofInt k.bits a ||| BitVec.ofInt k.bits b).toNat))
  | .xor => some (.int k (k.wrap (BitVec.ofInt k.bits a ^^^ BitVec.ofInt k.bits b).toNat))
  | .andNot => some (.int k (k.wrap (BitVec.ofInt k.bits a &&& ~~~BitVec.ofInt k.bits b).toNat))
  | .eql => some (.bool (a == b))
  | .neq => some (.bool (a != b))
  | .lss => some (.bool (decide (a < b)))
  | .leq => some (.bool (decide (a ≤ b)))
  | .gtr => some (.bool (decide (a > b)))
  | .geq => some (.bool (decide (a ≥ b)))
  | _ => none

def shiftOp (op : BinOp) (k : IntKind) (a b : Int) : Option (TV S) :=
  if b < 0 then none else
  match op with
  | .shl => some (.int k (k.wrap (a * 2 ^ (min b.toNat k.bits))))
  | .shr => some (.int k (a.fdiv (2 ^ (min b.toNat k.bits))))
  | _ => none

def strOp (op : BinOp) (a b : List UInt8) : Option (TV S) :=
  match op with
  | .add => if a.length + b.length ≤ 2 ^ 40 then some (.str (a ++ b)) else none
  | .eql => some (.bool (a == b))
  | .neq => some (.bool (!(a == b)))
  | .lss => some (.bool (bytesLess a b))
  | .leq => some (.bool (bytesLess a b || a == b))
  | .gtr => some (.bool (!(bytesLess a b || a == b)))
  | .geq => some (.bool (!(bytesLess a b)))
  | _ => none

/-- Two values of a scalar type: are they one? -/
def eqScalar : TypeDesc → TV S → TV S → Option Bool
  | .bool, .bool a, .bool b => some (a == b)
  | .int _, .int k a, .int k' b => if k = k' then some (a == b) else none
  | .string, .str a, .str b => some (a == b)
  | .pointer _, .nilp, .nilp => some true
  | .pointer _, .nilp, .ptr _ _ _ => some false
  | .pointer _, .ptr _ _ _, .nilp => some false
  | .map _ _, .nilm, .nilm => some true
  | .map _ _, .map _, .nilm => some false
  | .map _ _, .nilm, .map _ => some false
  | .slice _, .nils, .nils => some true
  | .slice _, .rs _ _ _, .nils => some false
  | .slice _, .nils, .rs _ _ _ => some false
  | .func _ _ _, .nilf, .nilf => some true
  | .func _ _ _, .fn _ _, .nilf => some false
  | .func _ _ _, .nilf, .fn _ _ => some false
  | _, _, _ => none

/-- Two values of a type: structs field by field, as the model does. -/
def eqFields (eq : TypeId → TV S → TV S → Option Bool) (P : Program) (xs ys : List (TV S)) : List Field → Option Bool
  | [] => some true
  | f :: r =>
    if f.name = "_" then eqFields eq P xs ys r else
    match tyOf P f.type with
    | none => none
    | some (ag, n) =>
      match takeCells ag n f.offset xs, takeCells ag n f.offset ys with
      | some a, some b => match eq f.type a b with
        | none => none
        | some q => match eqFields eq P xs ys r with
          | none => none
          | some q' => some (q && q')
      | _, _ => none

def eqType (P : Program) : Nat → TypeId → TV S → TV S → Option Bool
  | 0, _, _, _ => none
  | d + 1, t, x, y =>
    match P.underlying t with
    | none => none
    | some (.struct fs) => match x, y with
      | .agg xs, .agg ys => if P.stoodInHeld t then none else eqFields (eqType P d) P xs ys fs.toList
      | _, _ => none
    | some td => eqScalar td x y

def eqPair (P : Program) (op : BinOp) (xt : TypeId) (x y : TV S) : Option (TV S) :=
  match op with
  | .eql => (eqType P 40 xt x y).map TV.bool
  | .neq => (eqType P 40 xt x y).map fun b => TV.bool (!b)
  | _ => none
def binEval (P : Program) (op : BinOp) (xt : TypeId) (x y : TV S) : Option (TV S) :=
  match x, y with
  | .bool a, .bool b => eqPair P op xt (.bool a) (.bool b)
  | .nilp, .nilp => eqPair P op xt .nilp .nilp
  | .nilp, .ptr n i k => eqPair P op xt .nilp (.ptr n i k)
  | .ptr n i k, .nilp => eqPair P op xt (.ptr n i k) .nilp
  | .nilm, .nilm => eqPair P op xt .nilm .nilm
  | .map n, .nilm => eqPair P op xt (.map n) .nilm
  | .nilm, .map n => eqPair P op xt .nilm (.map n)
  | .nils, .nils => eqPair P op xt .nils .nils
  | .rs n i k, .nils => eqPair P op xt (.rs n i k) .nils
  | .nils, .rs n i k => eqPair P op xt .nils (.rs n i k)
  | .nilf, .nilf => eqPair P op xt .nilf .nilf
  | .fn f c, .nilf => eqPair P op xt (.fn f c) .nilf
  | .nilf, .fn f c => eqPair P op xt .nilf (.fn f c)
  | .agg xs, .agg ys => if P.eqGuardType P.depth xt = true then none else eqPair P op xt (.agg xs) (.agg ys)
  | _, _ => none

def unEval (op : UnOp) (x : TV S) : Option (TV S) :=
  match op, x with
  | .neg, .int k n => some (.int k (k.wrap (0 - n)))
  | .not, .bool b => some (.bool (!b))
  | .xor, .int k n => intOp .xor k (if k.signed then -1 else k.max) n
  | _, _ => none

/-- The fields of a struct type: where each lies, and how many cells it has. -/
def places (P : Program) (t : TypeId) : Option (Nat → Option (Nat × Nat)) :=
  match P.underlying t with
  | some (.struct fs) => (fs.toList.mapM fun f => (P.info? f.type).map fun i => (f.offset, i.size)).map fun l i => l[i]?
  | some (.array _ e) => (P.info? e).map fun i => fun j => some (j * i.size, i.size)
  | _ => none

def fillT (place : Nat → Option (Nat × Nat)) (cs : List (TV S)) : List (Nat × TV S) → Option (List (TV S))
  | [] => some cs
  | (i, v) :: r =>
    match place i with
    | none => none
    | some (off, n) =>
      if (cellsOf v).length = n ∧ off + n ≤ cs.length then fillT place (setCells cs off (cellsOf v)) r else none

def zeroT (P : Program) (t : TypeId) : Option (List (TV S)) :=
  match P.info? t with
  | some i => i.zero.map fun z => z.cells.toList.map ofVal
  | none => none

def maxRow : Nat := 2 ^ 36

def aliveCell : TV S → Bool
  | .agg _ => false
  | .tup _ => false
  | .dead => false
  | .undef => false
  | _ => true

/-! names -/
mutual
def namesOf : TV S → List Nat
  | .ptr nm _ _ => [nm]
  | .slw nm => [nm]
  | .sl nm _ _ => [nm]
  | .rs nm _ _ => [nm]
  | .map nm => [nm]
  | .fn _ cap => namesL cap
  | .mv _ cap => namesL cap
  | .iface _ v => namesOf v
  | .agg cs => namesL cs
  | .tup cs => namesL cs
  | _ => []
def namesL : List (TV S) → List Nat
  | [] => []
  | v :: r => namesOf v ++ namesL r
end
mutual
def ren (ρ : Nat → Nat) : TV S → TV S
  | .ptr nm i k => .ptr (ρ nm) i k
  | .slw nm => .slw (ρ nm)
  | .sl nm off len => .sl (ρ nm) off len
  | .rs nm off len => .rs (ρ nm) off len
  | .map nm => .map (ρ nm)
  | .fn f cap => .fn f (renL ρ cap)
  | .mv f cap => .mv f (renL ρ cap)
  | .iface t v => .iface t (ren ρ v)
  | .agg cs => .agg (renL ρ cs)
  | .tup cs => .tup (renL ρ cs)
  | v => v
def renL (ρ : Nat → Nat) : List (TV S) → List (TV S)
  | [] => []
  | v :: r => ren ρ v :: renL ρ r
end
def namesObj : Obj S → List Nat
  | .box cs => namesL cs
  | .raw _ cs => namesL cs
  | .iter nm _ _ _ => [nm]
  | _ => []
def renObj (ρ : Nat → Nat) : Obj S → Obj S
  | .box cs => .box (renL ρ cs)
  | .raw s cs => .raw s (renL ρ cs)
  | .row c xs m => .row c xs m
  | .deep c xs => .deep c xs
  | .gone => .gone
  | .mapo ag sh vag vc L ex clock => .mapo ag sh vag vc L ex clock
  | .iter nm a b c => .iter (ρ nm) a b c
def kidsAt (o : Nat → Option (Obj S)) (n : Nat) : List Nat := match o n with
  | some x => namesObj x
  | none => []
/-- The names that can be come to, in the order in which they are met. -/
def reach (o : Nat → Option (Obj S)) : Nat → List Nat → List Nat → List Nat
  | 0, _, seen => seen
  | _ + 1, [], seen => seen
  | k + 1, n :: todo, seen =>
    if seen.contains n then reach o k todo seen
    else reach o k (kidsAt o n ++ todo) (seen ++ [n])

/-! ### maps -/
def scTV : Sc → TV S
  | .bool b => .bool b
  | .int k n => .int k n
  | .str s => .str s
def keyTV (ag : Bool) (k : List Sc) : TV S := if ag then .agg (k.map scTV) else match k with
  | [x] => scTV x
  | _ => .undef
/-- The first scalar of a key. -/
def scI : List Sc → Int
  | .int _ n :: _ => n
  | _ => 0
def scB : List Sc → Bool
  | .bool b :: _ => b
  | _ => false
def scS : List Sc → List UInt8
  | .str s :: _ => s
  | _ => []
def keyCs : List ScK → List Sc → List (TV S)
  | [], _ => []
  | .int q :: r, k => .int q (scI k) :: keyCs r k.tail
  | .bool :: r, k => .bool (scB k) :: keyCs r k.tail
  | .str :: r, k => .str (scS k) :: keyCs r k.tail
/-- A key of a known shape as a value. -/
def keyTVs (ag : Bool) (sh : List ScK) (k : List Sc) : TV S := if ag then .agg (keyCs sh k) else match sh with
  | [.int q] => .int q (scI k)
  | [.bool] => .bool (scB k)
  | [.str] => .str (scS k)
  | _ => .undef
def scOf : TV S → Option Sc
  | .bool b => some (.bool b)
  | .int k n => some (.int k n)
  | .str s => some (.str s)
  | _ => none
def scsOf : List (TV S) → Option (List Sc)
  | [] => some []
  | v :: r => match scOf v, scsOf r with
    | some x, some l => some (x :: l)
    | _, _ => none
/-- A value as a key of this shape. -/
def keyIn (ag : Bool) (sh : List ScK) (v : TV S) : Option (List Sc) :=
  match ag, v with
  | true, .agg cs => (scsOf cs).bind fun k => if shaped sh k = true then some k else none
  | false, v => (scOf v).bind fun x => if shaped sh [x] = true then some [x] else none
  | _, _ => none
def findM {α : Type} (q : List Sc) : List (List Sc × α × Nat) → Option α
  | [] => none
  | e :: r => if e.1 = q then some e.2.1 else findM q r
def updM {α : Type} (q : List Sc) (y : α) (clock : Nat) : List (List Sc × α × Nat) → List (List Sc × α × Nat)
  | [] => [(q, y, clock)]
  | e :: r => if e.1 = q then (q, y, e.2.2) :: r else e :: updM q y clock r
/-- The entry of this stamp. -/
def findB {α : Type} (b : Nat) : List (List Sc × α × Nat) → Option (List Sc × α × Nat)
  | [] => none
  | e :: r => if e.2.2 = b then some e else findB b r
def delM {α : Type} (q : List Sc) : List (List Sc × α × Nat) → List (List Sc × α × Nat)
  | [] => []
  | e :: r => if e.1 = q then r else e :: delM q r
def castMap {c d : S.K} (h : c = d) (L : List (List Sc × S.El c × Nat)) : List (List Sc × S.El d × Nat) := h ▸ L
def aggV : TV S → Bool
  | .agg _ => true
  | _ => false

/-- Is the type's zero an aggregate? -/
def zeroShape (P : Program) (t : TypeId) : Option Bool :=
  match P.info? t with
  | some i => match i.zero with
    | some (.agg _) => some true
    | some _ => some false
    | none => none
  | none => none

section
variable {R : Type}
/-- A step of a range where at most one entry is left. -/
def nextOne {α : Type} (since : Nat) (seen : List Nat) (stepped : Nat) (L : List (List Sc × α × Nat)) (fin : Option R) (k : List Sc × α × Nat → Option R) : Option R :=
  if ((seen.isEmpty || (L.isEmpty || L.any fun e => decide (e.2.2 < stepped))) && L.all fun e => decide (e.2.2 < since)) = true then
    match L.filter fun e => !seen.contains e.2.2 with
    | [] => fin
    | [x] => k x
    | _ => none
  else none
def lookupEval (E : Env S) (o : Nat → Option (Obj S)) (base : Nat) (kt et : TypeId) (m x : TV S) (ok : Bool) (k : Eff S → Option R) : Option R :=
  match E.keyTy kt, E.code et, zeroT E.P et, tyOf E.P et with
  | some (ag, sh), some vc, some z, some (vag, n) =>
    match E.dec vc z, keyIn ag sh x with
    | some d, some q =>
      if z.all aliveCell = true ∧ n = E.sz vc ∧ zeroShape E.P et = some vag then
        match m with
        | .nilm => match takeCells vag (E.sz vc) 0 (E.enc vc d) with
          | some v => k ⟨if ok = true then .tup [v, .bool false] else v, [], [], base⟩
          | none => none
        | .map nm => match o nm with
          | some (.mapo ag' sh' vag' vc' L _ _) => if h : (ag' = ag ∧ sh' = sh) ∧ vag' = vag ∧ vc' = vc then
              (match takeCells vag (E.sz vc) 0 (E.enc vc ((findM q (castMap h.2.2 L)).getD d)) with
              | some v => k ⟨if ok = true then .tup [v, .bool (findM q (castMap h.2.2 L)).isSome] else v, [nm], [], base⟩
              | none => none) else none
          | _ => none
        | _ => none
      else none
    | _, _ => none
  | _, _, _, _ => none
def updateEval (E : Env S) (o : Nat → Option (Obj S)) (base : Nat) (kt : TypeId) (m x y : TV S) (k : Eff S → Option R) : Option R :=
  match m with
  | .map nm => match o nm with
    | some (.mapo ag sh vag vc L ex cl) => match keyIn ag sh x, elem E o vc y with
      | some q, some d => if E.keyTy kt = some (ag, sh) ∧ aggV y = vag then
          k ⟨.undef, nm :: (cellsOf y).flatMap rowName, freezes o ((cellsOf y).flatMap rowName) ++ [(nm, .mapo ag sh vag vc (updM q d cl L) ex (if (findM q L).isSome = true then cl else cl + 1))], base⟩
        else none
      | _, _ => none
    | _ => none
  | _ => none
def deleteEval (E : Env S) (o : Nat → Option (Obj S)) (base : Nat) (kt : TypeId) (m x : TV S) (k : Eff S → Option R) : Option R :=
  match m with
  | .map nm => match o nm with
    | some (.mapo ag sh vag vc L ex cl) => match keyIn ag sh x with
      | some q => if E.keyTy kt = some (ag, sh) then k ⟨.tup [], [nm], [(nm, .mapo ag sh vag vc (delM q L) ex cl)], base⟩ else none
      | none => none
    | _ => none
  | _ => none
def optInt (x : Option (TV S)) (d : Int) : Option Int :=
  match x with
  | none => some d
  | some (.int _ n) => some n
  | _ => none

/-! ### rows of raw cells -/
/-- The size and the zero of an element that lies in raw cells. -/
def rawEl (E : Env S) (e : TypeId) : Option (Nat × List (TV S)) :=
  if E.raw e = true then
    (match E.P.info? e with
    | some i => match i.zero with
      | some z => if (1 ≤ i.size ∧ i.size ≤ 2 ^ 11) ∧ i.bytes ≤ 2 ^ 11 ∧ z.cells.size = i.size then some (i.size, z.cells.toList.map ofVal) else none
      | none => none
    | none => none) else none
def repC : Nat → List (TV S) → List (TV S)
  | 0, _ => []
  | n + 1, z => z ++ repC n z
def rawBuild (E : Env S) (base : Nat) (e : TypeId) (n : Nat) (is : List Nat) (vs : List (TV S)) (k : Eff S → Option R) : Option R :=
  match rawEl E e with
  | some (s, _) => if (is = List.range n ∧ n ≤ 1000) ∧ vs.all (fun v => decide ((cellsOf v).length = s) && (cellsOf v).all aliveCell) = true then k ⟨.rs base 0 n, [], [(base, .raw s (vs.flatMap cellsOf))], base + 1⟩ else none
  | none => none
def rawMake (E : Env S) (base : Nat) (e : TypeId) (n m : Int) (k : Eff S → Option R) : Option R :=
  match rawEl E e with
  | some (s, z) => if (0 ≤ n ∧ n ≤ m ∧ m ≤ 2 ^ 12) ∧ z.all aliveCell = true then k ⟨.rs base 0 n.toNat, [], [(base, .raw s (repC n.toNat z))], base + 1⟩ else none
  | none => none
/-- What a slice of raw cells holds, and its name. -/
def rawOf (o : Nat → Option (Obj S)) (s : Nat) : TV S → Option (Nat × List (TV S) × List Nat)
  | .nils => some (0, [], [])
  | .rs nm off len => match o nm with
    | some (.raw s' cs) => if s' = s then some (len, (cs.drop (off * s)).take (len * s), [nm]) else none
    | _ => none
  | _ => none
def rawAppend (E : Env S) (o : Nat → Option (Obj S)) (base : Nat) (e : TypeId) (x y : TV S) (k : Eff S → Option R) : Option R :=
  match rawEl E e with
  | some (s, _) => match rawOf o s y with
    | some (0, _, rd) => (match x with
      | .nils => k ⟨.nils, rd, [], base⟩
      | .rs nm off len => k ⟨.rs nm off len, nm :: rd, [], base⟩
      | _ => none)
    | some (n, ys, rd) => if n ≤ 2 ^ 12 ∧ ys.all aliveCell = true then (match x with
      | .nils => k ⟨.rs base 0 n, rd, [(base, .raw s ys)], base + 1⟩
      | .rs nm 0 len => match o nm with
        | some (.raw s' cs) => if s' = s ∧ cs.length = len * s ∧ len ≤ 2 ^ 12 then k ⟨.rs base 0 (len + n), nm :: rd, [(nm, .gone), (base, .raw s (cs ++ ys))], base + 1⟩ else none
        | _ => none
      | _ => none) else none
    | none => none
  | none => none
def rawSlice (E : Env S) (o : Nat → Option (Obj S)) (base : Nat) (e : TypeId) (x : TV S) (lo hi mx : Option (TV S)) (k : Eff S → Option R) : Option R :=
  match rawEl E e with
  | some (s, _) => match x with
    | .nils => match optInt lo 0, optInt hi 0, mx with
      | some l, some h, none => if l = 0 ∧ h = 0 then k ⟨.nils, [], [], base⟩ else none
      | some l, some h, some (.int _ m) => if (l = 0 ∧ h = 0 ∧ m = 0) ∧ hi.isSome = true then k ⟨.nils, [], [], base⟩ else none
      | _, _, _ => none
    | .rs nm off len => match o nm, optInt lo 0, optInt hi len with
      | some (.raw s' cs), some l, some h => if s' = s ∧ 0 ≤ l ∧ l ≤ h ∧ (off + h.toNat) * s ≤ cs.length then
          (match mx with
          | none => k ⟨.rs nm (off + l.toNat) (h - l).toNat, [nm], [], base⟩
          | some (.int _ m) => if (h ≤ m ∧ (off + m.toNat) * s ≤ cs.length) ∧ hi.isSome = true then
              (if m = l then k ⟨.rs base 0 0, [nm], [(base, .raw s [])], base + 1⟩ else k ⟨.dead, [nm], [], base⟩) else none
          | _ => none) else none
      | _, _, _ => none
    | _ => none
  | none => none
def rawAddr (E : Env S) (o : Nat → Option (Obj S)) (base : Nat) (e : TypeId) (nm off len : Nat) (n : Int) (k : Eff S → Option R) : Option R :=
  match rawEl E e, o nm with
  | some (s, _), some (.raw s' _) => if s' = s ∧ 0 ≤ n ∧ n < len then k ⟨.ptr nm (off + n.toNat) 0, [nm], [], base⟩ else none
  | _, _ => none
def rawClear (E : Env S) (o : Nat → Option (Obj S)) (base : Nat) (e : TypeId) (x : TV S) (k : Eff S → Option R) : Option R :=
  match rawEl E e with
  | some (s, z) => match x with
    | .nils => k ⟨.tup [], [], [], base⟩
    | .rs nm off len => match o nm with
      | some (.raw s' cs) => if s' = s ∧ z.all aliveCell = true ∧ (off + len) * s ≤ cs.length ∧ len ≠ 0 then k ⟨.tup [], [nm], [(nm, .raw s (setCells cs (off * s) (repC len z)))], base⟩ else none
      | _ => none
    | _ => none
  | none => none
/-- A place in a slice that lies in a box, an element to a cell. -/
def boxAddr0 (E : Env S) (o : Nat → Option (Obj S)) (base : Nat) (e : TypeId) (x : TV S) (n : Int) (k : Eff S → Option R) : Option R :=
  match x, tyOf E.P e with
  | .sl nm 0 len, some (_, 1) => match o nm with
    | some (.box _) => if 0 ≤ n ∧ n < len then k ⟨.ptr nm 0 n.toNat, [nm], [], base⟩ else none
    | _ => none
  | _, _ => none
/-- The address of an element of a deep row, or of a box. -/
def boxAddr (E : Env S) (o : Nat → Option (Obj S)) (base : Nat) (e : TypeId) (x : TV S) (n : Int) (k : Eff S → Option R) : Option R :=
  match x with
  | .slw nm => match o nm with
    | some (.deep c xs) => if codeIs E e c = true then (if 0 ≤ n ∧ n < xs.len then k ⟨.ptr nm n.toNat 0, [nm], [], base⟩ else none) else none
    | _ => none
  | .rs nm off len => rawAddr E o base e nm off len n k
  | y => boxAddr0 E o base e y n k
/-- A slice of values of one cell each, in a box. -/
def boxSlice (E : Env S) (base : Nat) (e : TypeId) (n : Nat) (is : List Nat) (vs : List (TV S)) (k : Eff S → Option R) : Option R :=
  match tyOf E.P e, (zeroT E.P e : Option (List (TV S))) with
  | some (_, s), some _ => if (is = List.range n ∧ n * s ≤ 1000) ∧ vs.all (fun v => decide ((cellsOf v).length = s) && (cellsOf v).all aliveCell) = true then k ⟨.sl base 0 n, [], [(base, .box (vs.flatMap cellsOf))], base + 1⟩ else none
  | _, _ => none
/-- The end of a row of the call's own is cleared. -/
def clearEval (E : Env S) (o : Nat → Option (Obj S)) (base : Nat) (e : TypeId) (x : TV S) (k : Eff S → Option R) : Option R :=
  match x, zeroT E.P e with
  | .sl nm off len, some z => match o nm with
    | some (.row c xs .own) => match E.dec c z with
      | some x0 => if codeIs E e c = true ∧ z.all aliveCell = true then (if off + len = xs.length ∧ len ≠ 0 then k ⟨.tup [], [nm], [(nm, .row c (xs.take off ++ List.replicate len x0) .own)], base⟩ else none) else none
      | none => none
    | _ => none
  | _, _ => none
def mapEval (E : Env S) (o : Oper) (t : Nat → TV S) (ob : Nat → Option (Obj S)) (base : Nat) (k : Eff S → Option R) : Option R :=
  match o.op with
  | .makeMap ty none => match E.P.underlying ty with
    | some (.map kt et) => match E.keyTy kt, E.code et, tyOf E.P et with
      | some (ag, sh), some vc, some (vag, n) => if n = E.sz vc then k ⟨.map base, [], [(base, .mapo ag sh vag vc [] true 0)], base + 1⟩ else none
      | _, _, _ => none
    | _ => none
  | .lookup ty m x ok => match E.P.underlying ty with
    | some (.map kt et) => lookupEval E ob base kt et (ev t m) (ev t x) ok k
    | _ => none
  | .mapUpdate ty m x y => match E.P.underlying ty with
    | some (.map kt _) => updateEval E ob base kt (ev t m) (ev t x) (ev t y) k
    | _ => none
  | .insert ty m x y => match E.P.underlying ty with
    | some (.map kt _) => updateEval E ob base kt (ev t m) (ev t x) (ev t y) k
    | _ => none
  | .range ty m => match E.P.underlying ty, ev t m with
    | some (.map _ _), .map nm => match ob nm with
      | some (.mapo _ _ _ _ _ true cl) => k ⟨.ptr base 0 0, [nm], [(base, .iter nm cl [] cl)], base + 1⟩
      | _ => none
    | _, _ => none
  | .entry it => match ev t it with
    | .ptr nm 0 0 => match ob nm with
      | some (.iter mp _ seen stepped) => match seen.head?, ob mp with
        | some stamp, some (.mapo ag sh vag vc L true cl) => if cl = stepped then
            (match findB stamp L with
            | some e => match takeCells vag (E.sz vc) 0 (E.enc vc e.2.1) with
              | some v => k ⟨.tup [keyTVs ag sh e.1, v], [nm, mp], [], base⟩
              | none => none
            | none => none) else none
        | _, _ => none
      | _ => none
    | _ => none
  | .next it false => match ev t it with
    | .ptr nm 0 0 => match ob nm with
      | some (.iter mp since seen stepped) => match ob mp with
        | some (.mapo _ _ _ _ L true cl) => nextOne since seen stepped L (k ⟨.tup [.bool false], [nm, mp], [], base⟩) fun e => k ⟨.tup [.bool true, .dead, .dead], [nm, mp], [(nm, .iter mp since (e.2.2 :: seen) cl)], base⟩
        | _ => none
      | _ => none
    | _ => none
  | _ => none
end

/-! ### rows that own rows -/
def deepc (E : Env S) (d : S.K) : Bool := (List.range (E.sz d)).any (E.sub d)
/-- A row that was within another, as an object. -/
def objOf (E : Env S) (d : S.K) (ys : List (S.El d)) : Obj S := if deepc E d = true then .deep d (.full ys) else .row d ys .own
/-- The cells of an element that is taken out: its rows get names. -/
def openV (E : Env S) (c : S.K) : Nat → Nat → List (TV S) → List (TV S)
  | _, _, [] => []
  | j, b, v :: r => if E.sub c j = true then .slw b :: openV E c (j + 1) (b + 1) r else v :: openV E c (j + 1) b r
def subObj (E : Env S) : TV S → Obj S
  | .tree d ys => objOf E d ys
  | _ => .gone
def openO (E : Env S) (c : S.K) : Nat → Nat → List (TV S) → List (Nat × Obj S)
  | _, _, [] => []
  | j, b, v :: r => if E.sub c j = true then (b, subObj E v) :: openO E c (j + 1) (b + 1) r else openO E c (j + 1) b r
/-- A cell that goes into an element of a deep row: its plain value, and the row that goes in. -/
def takeV (E : Env S) (o : Nat → Option (Obj S)) (c : S.K) (j : Nat) (v : TV S) : Option (TV S × List Nat) :=
  if E.sub c j = true then (match v with
    | .nils => some (.nils, [])
    | .slw n => match o n with
      | some (.deep d (.full ys)) => if deepc E d = true then some (.tree d ys, [n]) else none
      | some (.row d ys .own) => if deepc E d = true then none else some (.tree d ys, [n])
      | _ => none
    | _ => none)
  else (pureOf o v).map fun p => (p, [])
def takeIn (E : Env S) (o : Nat → Option (Obj S)) (c : S.K) : Nat → List (TV S) → Option (List (TV S) × List Nat)
  | _, [] => some ([], [])
  | j, v :: r => match takeV E o c j v, takeIn E o c (j + 1) r with
    | some (p, ns), some (ps, ms) => some (p :: ps, ns ++ ms)
    | _, _ => none
/-- the rows that are frozen, since they lie in other cells -/
def frozenIn (E : Env S) (c : S.K) : Nat → List (TV S) → List Nat
  | _, [] => []
  | j, v :: r => if E.sub c j = true then frozenIn E c (j + 1) r else rowName v ++ frozenIn E c (j + 1) r
section
variable {R : Type}
/-- What is written when an element of a deep row is put in. -/
def closeWr (E : Env S) (o : Nat → Option (Obj S)) (c : S.K) (cs : List (TV S)) (ns : List Nat) : List (Nat × Obj S) :=
  freezes o (frozenIn E c 0 cs) ++ ns.map fun n => (n, .gone)
def apartN (nm : Nat) (ns fs : List Nat) : Bool := !ns.contains nm && !fs.contains nm && ns.all (fun n => !fs.contains n) && decide ns.Nodup
/-- An element is put into a deep row. -/
def closeEval (E : Env S) (o : Nat → Option (Obj S)) (base nm i : Nat) (c : S.K) (d : DX (S.El c)) (cs : List (TV S)) (k : Eff S → Option R) : Option R :=
  match takeIn E o c 0 cs with
  | none => none
  | some (ps, ns) => if (apartN nm ns (frozenIn E c 0 cs) && decide (cs.length = E.sz c)) = true then
    (match E.dec c ps with
    | none => none
    | some z => match d with
      | .full xs => if i < xs.length then k ⟨.undef, nm :: cs.flatMap rowName, closeWr E o c cs ns ++ [(nm, .deep c (.full (xs.set i z)))], base⟩ else none
      | .hole xs j => if i = j ∧ i < xs.length then k ⟨.undef, nm :: cs.flatMap rowName, closeWr E o c cs ns ++ [(nm, .deep c (.full (xs.set i z)))], base⟩ else none
      | .gen _ => none) else none
/-- An element of a deep row is loaded, or a part of it that holds no rows of its own. -/
def openEval (E : Env S) (base : Nat) (ag : Bool) (n nm i k' : Nat) (c : S.K) (d : DX (S.El c)) (k : Eff S → Option R) : Option R :=
  match d with
  | .full xs => match xs[i]? with
    | some x =>
      if (decide (1 ≤ n) && (List.range n).all fun j => !E.sub c (k' + j)) = true then (match takeCells ag n k' (E.enc c x) with
        | some v => k ⟨v, [nm], [], base⟩
        | none => none)
      else if (k' = 0 ∧ n = E.sz c) ∧ ag = true then k ⟨.agg (openV E c 0 base (E.enc c x)), [nm], (nm, .deep c (.hole xs i)) :: openO E c 0 base (E.enc c x), base + (openO E c 0 base (E.enc c x)).length⟩
      else none
    | none => none
  | _ => none
/-- One element that lies in a box, as a slice. -/
def boxOne (E : Env S) (o : Nat → Option (Obj S)) (c : S.K) (y : TV S) : Option (Nat × List (TV S)) :=
  match y with
  | .sl nm 0 1 => match o nm with
    | some (.box cs) => if (deepc E c && decide (cs.length = E.sz c) && cs.all aliveCell) = true then some (nm, cs) else none
    | _ => none
  | _ => none
/-- append of one element to a deep row -/
def appendDeep (E : Env S) (o : Nat → Option (Obj S)) (base : Nat) (c : S.K) (x : TV S) (bn : Nat) (cs : List (TV S)) (k : Eff S → Option R) : Option R :=
  match x with
  | .slw nm => match o nm with
    | some (.deep d (.full xs)) => if h : d = c then
        (match takeIn E o c 0 cs with
        | none => none
        | some (ps, ns) => if apartN nm ns (frozenIn E c 0 cs) = true then
          (match E.dec c ps with
          | none => none
          | some z => if xs.length + 1 ≤ maxRow then k ⟨.slw base, nm :: bn :: cs.flatMap rowName, ((nm, .gone) :: closeWr E o c cs ns) ++ [(base, .deep c (.full ((h ▸ xs) ++ [z])))], base + 1⟩ else none) else none) else none
    | _ => none
  | _ => none
end

/-! ### operations -/
/-- An element of a list, at a number. -/
def at? {α : Type} (xs : List α) (n : Int) : Option α := if n < 0 then none else xs[n.toNat]?
/-- 'x && y', 'x || y': the second one where it is asked. -/
def ifB (q w : Bool) (x : Option Bool) (y : Option Bool) : Option Bool := if (q == w) = true then x else y

def asTree (o : Nat → Option (Obj S)) : TV S → Option (TV S)
  | .slw nm => match o nm with
    | some (.row c xs .app) => some (.tree c xs)
    | some (.row c xs .ro) => if tok c xs = true then some (.tree c xs) else none
    | _ => none
  | .sl nm off len => match o nm with
    | some (.row c xs .app) => if tok c ((xs.drop off).take len) = true then some (.tree c ((xs.drop off).take len)) else none
    | some (.row c xs .ro) => if tok c ((xs.drop off).take len) = true then some (.tree c ((xs.drop off).take len)) else none
    | _ => none
  | v => some v
/-- .. also in the cells of an aggregate -/
def asTreeA (o : Nat → Option (Obj S)) : TV S → Option (TV S)
  | .agg cs => some (.agg (cs.map fun c => (asTree o c).getD c))
  | v => asTree o v
def shareArgs (E : Env S) (o : Nat → Option (Obj S)) (f : FuncId) : Nat → List (TV S) → Option (List (TV S))
  | _, [] => some []
  | j, v :: r => match shareArgs E o f (j + 1) r with
    | some r => some ((if E.asObj f j then v else (asTreeA o v).getD v) :: r)
    | none => none

def closedUnder (o : Nat → Option (Obj S)) (ks roots : List Nat) : Bool :=
  (roots.all fun n => ks.contains n) && ks.all fun n => match o n with
    | some x => (namesObj x).all fun m => ks.contains m
    | none => false
def backTo (ks : List Nat) (base i : Nat) : Nat := match ks[i]? with
  | some n => n
  | none => base + (i - ks.length)

def xsOk (n : Nat) : Option (List (Obj S)) → Bool
  | none => true
  | some xs => xs.length == n
def zipBack (ks : List Nat) (base : Nat) : Option (List (Obj S)) → List (Nat × Obj S)
  | none => []
  | some xs => ks.zip (xs.map (renObj (backTo ks base)))

mutual
/-- Are two values one, as far as can be told? -/
def sameTV : TV S → TV S → Bool
  | .bool a, .bool b => a == b
  | .int j a, .int k b => decide (j = k) && decide (a = b)
  | .str a, .str b => a == b
  | .nilp, .nilp => true
  | .nils, .nils => true
  | .nilm, .nilm => true
  | .nilf, .nilf => true
  | .nili, .nili => true
  | .ptr a b c, .ptr a' b' c' => Nat.beq a a' && (Nat.beq b b' && Nat.beq c c')
  | .rs a b c, .rs a' b' c' => Nat.beq a a' && (Nat.beq b b' && Nat.beq c c')
  | .map a, .map b => Nat.beq a b
  | .fn f a, .fn g b => decide (f = g) && sameL a b
  | .mv f a, .mv g b => decide (f = g) && sameL a b
  | _, _ => false
def sameL : List (TV S) → List (TV S) → Bool
  | [], [] => true
  | a :: x, b :: y => sameTV a b && sameL x y
  | _, _ => false
end
def sameObj : Obj S → Obj S → Bool
  | .gone, .gone => true
  | .box a, .box b => sameL a b
  | .raw s a, .raw t b => Nat.beq s t && sameL a b
  | _, _ => false
def keepWr (o : Nat → Option (Obj S)) (p : Nat × Obj S) : Bool := match o p.1 with
  | some x => !sameObj x p.2
  | none => true
/-- In closed runs: what is written just as it was is not written. -/
def pruneWr (E : Env S) (o : Nat → Option (Obj S)) (l : List (Nat × Obj S)) : List (Nat × Obj S) :=
  bif E.raw 0 then l.filter (keepWr o) else l

section cps
variable {R : Type}

def callEval (E : Env S) (o : Nat → Option (Obj S)) (base : Nat) (f : FuncId) (args : List (TV S)) (k : Eff S → Option R) : Option R :=
  match shareArgs E o f 0 args with
  | none => none
  | some args' =>
    let ks := reach o 400 (namesL args') []
    if closedUnder o ks (namesL args') = true then
      E.callf f (renL (fun n => ks.idxOf n) args') (ks.map fun n => renObj (fun n => ks.idxOf n) ((o n).getD .gone)) R fun r =>
        if xsOk ks.length r.xs = true then
          k ⟨ren (backTo ks base) r.v, namesL args ++ ks,
            pruneWr E o (zipBack ks base r.xs) ++ (r.ns.zipIdx.map fun p => (base + p.2, renObj (backTo ks base) p.1)),
            base + r.ns.length⟩
        else none
    else none

/-- append -/
def appendEval (o : Nat → Option (Obj S)) (base : Nat) (m : RM) (c : S.K) (x y : TV S) (k : Eff S → Option R) : Option R :=
  match listOf o c y with
  | none => none
  | some ys =>
    match x with
    | .nils => if ys.length ≤ maxRow then k ⟨.slw base, rowName y, [(base, .row c ys m)], base + 1⟩ else none
    | .tree d xs => if S.tight d && xs.isEmpty && decide (d = c) then (if ys.length ≤ maxRow then k ⟨.slw base, rowName y, [(base, .row c ys m)], base + 1⟩ else none) else none
    | .slw nm => match o nm with
      | some (.row d xs m') => if h : d = c then
          (match m' with
          | .app => if xs.length + ys.length ≤ maxRow then k ⟨.slw base, nm :: rowName y, [(nm, .row d xs .ro), (base, .row c (castRow h xs ++ ys) .app)], base + 1⟩ else none
          | .own => if xs.length + ys.length ≤ maxRow then k ⟨.slw base, nm :: rowName y, [(nm, .gone), (base, .row c (castRow h xs ++ ys) .own)], base + 1⟩ else none
          | .ro => none) else none
      | _ => none
    | _ => none

def idxEval (P : Program) (t : Option TypeDesc) (x : TV S) (i : Int) (k : TV S → Option R) : Option R :=
  match t, x with
  | some .string, .str s => (at? s i).bind fun b => k (.int .u8 b.toNat)
  | some (.array L e), .agg cs => if cs.length = L ∧ tyOf P e = some (false, 1) then
      (match allStr cs with
      | some l => (at? l i).bind fun s => k (.str s)
      | none => match allInt .i64 cs with
        | some l => (at? l i).bind fun n => k (.int .i64 n)
        | none => none) else none
  | _, _ => none

def lenT (d : Option TypeDesc) (o : Nat → Option (Obj S)) (x : TV S) : Option Nat :=
  match d, x with
  | some .string, .str s => some s.length
  | some (.slice _), .nils => some 0
  | some (.slice _), .tree _ xs => some xs.length
  | some (.slice _), .slw nm => match o nm with
    | some (.row _ xs _) => some xs.length
    | some (.deep _ d) => some d.len
    | _ => none
  | some (.slice _), .sl _ _ len => some len
  | some (.slice _), .rs _ _ len => some len
  | some (.map _ _), .nilm => some 0
  | _, _ => none

def sliceEval (o : Nat → Option (Obj S)) (x : TV S) (lo hi : Option (TV S)) (k : TV S → List Nat → Option R) : Option R :=
  match lenOf o x with
  | none => none
  | some n =>
    match optInt lo 0, optInt hi n with
    | some l, some h =>
      if 0 ≤ l ∧ l ≤ h ∧ h ≤ n then
        match x with
        | .str s => k (.str ((s.take h.toNat).drop l.toNat)) []
        | .tree c xs => if tok c ((xs.take h.toNat).drop l.toNat) = true then k (.tree c ((xs.take h.toNat).drop l.toNat)) [] else none
        | .nils => k .nils []
        | .slw nm => k (.sl nm l.toNat (h.toNat - l.toNat)) [nm]
        | .sl nm off _ => k (.sl nm (off + l.toNat) (h.toNat - l.toNat)) [nm]
        | _ => none
      else none
    | _, _ => none

def fieldOff (P : Program) (t : TypeId) (f : Nat) : Option (Nat × TypeId) :=
  match P.underlying t with
  | some (.struct fs) => match fs[f]? with
    | some fd => match P.info? fd.type with
      | some i => if i.size = 0 then none else some (fd.offset, fd.type)
      | none => none
    | none => none
  | _ => none

def convEval (E : Env S) (src dst : TypeId) (x : TV S) : Option (TV S) :=
  match E.P.underlying src, E.P.underlying dst, x with
  | some _, some (.int k), .int _ n => some (.int k (k.wrap n))
  | some _, some .string, .str s => some (.str s)
  | _, _, _ => none

/-- The bytes of a row. -/
def bytesL (E : Env S) (c : S.K) : List (S.El c) → Option (List UInt8)
  | [] => some []
  | x :: r => match E.enc c x with
    | [.int .u8 n] => match bytesL E c r with
      | some l => some (UInt8.ofNat n.toNat :: l)
      | none => none
    | _ => none
def bytesEval (E : Env S) (ob : Nat → Option (Obj S)) (src dst : TypeId) (x : TV S) : Option (List UInt8 × Nat) :=
  match E.P.underlying src, E.P.underlying dst, x with
  | some (.slice e), some .string, .slw nm => match E.P.underlying e, ob nm with
    | some (.int .u8), some (.row c xs _) => if E.sz c = 1 then (match bytesL E c xs with
      | some l => some (l, nm)
      | none => none) else none
    | _, _ => none
  | _, _, _ => none
def binEvalK (P : Program) (op : BinOp) (xt : TypeId) (x y : TV S) (k : TV S → Option R) : Option R :=
  match x, y with
  | .int j a, .int j' b =>
    match op with
    | .shl => if b < 0 then none else k (.int j (j.wrap (a * 2 ^ (min b.toNat j.bits))))
    | .shr => if b < 0 then none else k (.int j (a.fdiv (2 ^ (min b.toNat j.bits))))
    | .quo => if b = 0 then none else (if j = j' then k (.int j (j.wrap (a.tdiv b))) else none)
    | .rem => if b = 0 then none else (if j = j' then k (.int j (a.tmod b)) else none)
    | _ => if j = j' then (match intOp op j a b with | some v => k v | none => none) else none
  | .str a, .str b => match op with
    | .add => if a.length + b.length ≤ maxRow then k (.str (a ++ b)) else none
    | _ => (match strOp op a b with | some v => k v | none => none)
  | x, y => match binEval P op xt x y with | some v => k v | none => none

def minMax (lt : Bool) : TV S → List (TV S) → Option (TV S)
  | v, [] => some v
  | .int k p, .int k' q :: r => if k = k' then minMax lt (.int k (if (if lt then q < p else q > p) then q else p)) r else none
  | _, _ => none

def opEval (E : Env S) (H : Hint S) (o : Oper) (t : Nat → TV S) (ob : Nat → Option (Obj S)) (base : Nat) (k : Eff S → Option R) : Option R :=
  let pure (v : Option (TV S)) (rd : List Nat) : Option R := match v with | some v => k ⟨v, rd, [], base⟩ | none => none
  match o.op with
  | .move x | .assign x => k ⟨ev t x, [], [], base⟩
  | .pick c a b => match ev t c with
    | .bool q => match ev t a, ev t b with
      | .bool x, .bool y => k ⟨.bool (bif q then x else y), [], [], base⟩
      | _, _ => match ev t (bif q then a else b) with
        | .bool x => k ⟨.bool x, [], [], base⟩
        | _ => none
    | _ => none
  | .alloc e => match zeroT E.P e with
    | some z => k ⟨.ptr base 0 0, [], [(base, .box z)], base + 1⟩
    | none => none
  | .box _ v => if (cellsOf (ev t v)).all aliveCell = true then k ⟨.ptr base 0 0, [], [(base, .box (cellsOf (ev t v)))], base + 1⟩ else none
  | .build ty ps => match zeroT E.P ty, places E.P ty with
    | some z, some pl => if (ps.toList.all fun p => (cellsOf (ev t p.2)).all aliveCell) = true then
        (match fillT pl z (ps.toList.map fun p => (p.1, ev t p.2)) with
        | some cs => k ⟨.agg cs, [], [], base⟩
        | none => none) else none
    | _, _ => none
  | .load ty a => match tyOf E.P ty, ev t a with
    | some (ag, n), .ptr nm i k' => match ob nm with
      | some (.box cs) => if i = 0 then (if ag = true then pure (takeCells ag n k' cs) [nm] else cellK cs k' fun v => k ⟨v, [nm], [], base⟩) else none
      | some (.row c xs _) => match xs[i]? with
        | some x => pure (takeCells ag n k' (E.enc c x)) [nm]
        | none => none
      | some (.deep c d) => openEval E base ag n nm i k' c d k
      | some (.raw s cs) => pure (takeCells ag n (i * s + k') cs) [nm]
      | _ => none
    | some (ag, n), .iptr c x k' => pure (takeCells ag n k' (E.enc c x)) []
    | _, _ => none
  | .store ty a v => match tyOf E.P ty, ev t a with
    | some (_, n), .ptr nm i k' =>
      let cs := cellsOf (ev t v)
      if cs.length = n ∧ cs.all aliveCell = true then
        match ob nm with
        | some (.box old) => if i = 0 ∧ k' + n ≤ old.length then k ⟨.undef, [nm], [(nm, .box (setCells old k' cs))], base⟩ else none
        | some (.row c xs .own) => match xs[i]? with
          | some x => match cs.mapM (pureOf ob) with
            | some cs' => if k' + n ≤ (E.enc c x).length ∧ (cs.flatMap rowName).contains nm = false then
                (match E.dec c (setCells (E.enc c x) k' cs') with
                | some x' => k ⟨.undef, nm :: cs.flatMap rowName, freezes ob (cs.flatMap rowName) ++ [(nm, .row c (xs.set i x') .own)], base⟩
                | none => none) else none
            | none => none
          | none => none
        | some (.deep c d) => if k' = 0 ∧ n = E.sz c then closeEval E ob base nm i c d cs k else none
        | some (.raw s old) => if 1 ≤ n ∧ i * s + k' + n ≤ old.length then k ⟨.undef, [nm], [(nm, .raw s (setCells old (i * s + k') cs))], base⟩ else none
        | _ => none
      else none
    | _, _ => none
  | .nilCheck x => match ev t x with
    | .ptr nm i j => k ⟨.ptr nm i j, [], [], base⟩
    | .iptr c x j => k ⟨.iptr c x j, [], [], base⟩
    | _ => none
  | .binOp op xt x y _ => binEvalK E.P op xt (ev t x) (ev t y) fun v => k ⟨v, [], [], base⟩
  | .unOp op _ x => pure (unEval op (ev t x)) []
  | .convert a b x => match convEval E a b (ev t x) with
    | some v => k ⟨v, [], [], base⟩
    | none => match bytesEval E ob a b (ev t x) with
      | some (l, nm) => k ⟨.str l, [nm], [], base⟩
      | none => none
  | .fieldAddr st x f => match fieldOff E.P st f, ev t x with
    | some (off, _), .ptr nm i j => k ⟨.ptr nm i (j + off), [], [], base⟩
    | some (off, _), .iptr c x j => k ⟨.iptr c x (j + off), [], [], base⟩
    | _, _ => none
  | .field st x f => match fieldOff E.P st f, ev t x with
    | some (off, ft), .agg cs => match tyOf E.P ft with
      | some (ag, n) => pure (takeCells ag n off cs) []
      | none => none
    | _, _ => none
  | .indexAddr ty x i => match E.P.underlying ty, ev t i with
    | some (.slice e), .int _ n => if sliceOf E ob e (ev t x) = true then
      (match ev t x with
      | .slw nm => match ob nm with
        | some (.row _ xs _) => if 0 ≤ n ∧ n < xs.length then k ⟨.ptr nm n.toNat 0, [nm], [], base⟩ else none
        | _ => none
      | .sl nm off len => if 0 ≤ n ∧ n < len then k ⟨.ptr nm (off + n.toNat) 0, [nm], [], base⟩ else none
      | .tree c xs => (at? xs n).bind fun x => k ⟨.iptr c x 0, [], [], base⟩
      | _ => none) else boxAddr E ob base e (ev t x) n k
    | some (.array L e), .int _ n => match E.P.info? e, ev t x with
      | some inf, .ptr nm i j => if 0 ≤ n ∧ n < L then k ⟨.ptr nm i (j + n.toNat * inf.size), [], [], base⟩ else none
      | some inf, .iptr c z j => if 0 ≤ n ∧ n < L then k ⟨.iptr c z (j + n.toNat * inf.size), [], [], base⟩ else none
      | _, _ => none
    | _, _ => none
  | .index ty x i => match ev t i with
    | .int _ n => idxEval E.P (E.P.underlying ty) (ev t x) n fun v => k ⟨v, [], [], base⟩
    | _ => none
  | .slice ty x lo hi mx => match mx, E.P.underlying ty with
    | none, some .string => if isStr (ev t x) = true then sliceEval ob (ev t x) (lo.map (ev t)) (hi.map (ev t)) fun v rd => k ⟨v, rd, [], base⟩ else none
    | none, some (.slice e) => if sliceOf E ob e (ev t x) = true then sliceEval ob (ev t x) (lo.map (ev t)) (hi.map (ev t)) fun v rd => k ⟨v, rd, [], base⟩ else rawSlice E ob base e (ev t x) (lo.map (ev t)) (hi.map (ev t)) none k
    | some m, some (.slice e) => rawSlice E ob base e (ev t x) (lo.map (ev t)) (hi.map (ev t)) (some (ev t m)) k
    | _, _ => none
  | .extract x i => match ev t x with
    | .tup vs => pure vs[i]? []
    | _ => none
  | .makeFunc (.func f) first cap => if first.size = 0 then k ⟨.fn f (cap.toList.map (ev t)), [], [], base⟩ else if cap.size = 0 then k ⟨.mv f (first.toList.map (ev t)), [], [], base⟩ else none
  | .buildSlice ty n ps => match E.P.underlying ty with
    | some (.slice e) => bif E.raw e then rawBuild E base e n (ps.toList.map (·.1)) (ps.toList.map fun p => ev t p.2) k else match E.code e with
      | some c => if (deepc E c && decide (n = 1) && decide (H.mode (o.dst.getD 0) = .app)) = true then boxSlice E base e n (ps.toList.map (·.1)) (ps.toList.map fun p => ev t p.2) k else if ps.toList.map (·.1) = List.range n ∧ n ≤ 1000 then
          let vs := ps.toList.map fun p => ev t p.2
          match vs.mapM (elem E ob c) with
          | some xs => k ⟨.slw base, vs.flatMap (fun v => (cellsOf v).flatMap rowName), freezes ob (vs.flatMap (fun v => (cellsOf v).flatMap rowName)) ++ [(base, .row c xs (H.mode (o.dst.getD 0)))], base + 1⟩
          | none => none
        else none
      | none => boxSlice E base e n (ps.toList.map (·.1)) (ps.toList.map fun p => ev t p.2) k
    | _ => none
  | .makeSlice ty l cp => match E.P.underlying ty, ev t l, ev t cp with
    | some (.slice e), .int .i64 n, .int .i64 m => bif E.raw e then rawMake E base e n m k else match E.code e, zeroT E.P e with
      | some c, some z => match E.dec c z with
        | some x => if (0 ≤ n ∧ n ≤ m ∧ m ≤ maxRow) ∧ z.all aliveCell = true then k ⟨.slw base, [], [(base, .row c (List.replicate n.toNat x) .own)], base + 1⟩ else none
        | none => none
      | _, _ => none
    | _, _, _ => none
  | .call { callee := .builtin b, args, argTypes } => match b, args.toList.map (ev t) with
    | .len, [.map nm] => match (argTypes[0]?).bind E.P.underlying, ob nm with
      | some (.map _ _), some (.mapo _ _ _ _ L _ _) => k ⟨.int .i64 L.length, [nm], [], base⟩
      | _, _ => none
    | .delete, [m, x] => match (argTypes[0]?).bind E.P.underlying with
      | some (.map kt _) => deleteEval E ob base kt m x k
      | _ => none
    | .clear, [x] => match (argTypes[0]?).bind E.P.underlying with
      | some (.slice e) => bif E.raw e then rawClear E ob base e x k else clearEval E ob base e x k
      | _ => none
    | .len, [x] => match lenT ((argTypes[0]?).bind E.P.underlying) ob x with
      | some n => k ⟨.int .i64 n, rowName x, [], base⟩
      | none => none
    | .append, [x, y] => match (argTypes[0]?).bind E.P.underlying, (argTypes[1]?).bind E.P.underlying with
      | some (.slice e), some (.slice _) => bif E.raw e then rawAppend E ob base e x y k else match E.code e with
        | some c => match boxOne E ob c y with
          | some (bn, cs) => appendDeep E ob base c x bn cs k
          | none => appendEval ob base (H.mode (o.dst.getD 0)) c x y k
        | none => none
      | _, _ => none
    | .min, x :: r => pure (minMax true x r) []
    | .max, x :: r => pure (minMax false x r) []
    | _, _ => none
  | .call { callee := .value f, args, .. } => match ev t f with
    | .fn g cap => callEval E ob base g (args.toList.map (ev t) ++ cap) k
    | .mv g first => callEval E ob base g (first ++ args.toList.map (ev t)) k
    | _ => none
  | _ => mapEval E o t ob base k

def ev_move (E : Env S) (H : Hint S) (o : Oper) (t : Nat → TV S) (ob : Nat → Option (Obj S)) (base : Nat) (k : Eff S → Option R) (x : Operand) : Option R :=
  k ⟨ev t x, [], [], base⟩
def ev_pick (E : Env S) (H : Hint S) (o : Oper) (t : Nat → TV S) (ob : Nat → Option (Obj S)) (base : Nat) (k : Eff S → Option R) (c : Operand) (a : Operand) (b : Operand) : Option R :=
  match ev t c with
    | .bool q => match ev t a, ev t b with
      | .bool x, .bool y => k ⟨.bool (bif q then x else y), [], [], base⟩
      | _, _ => match ev t (bif q then a else b) with
        | .bool x => k ⟨.bool x, [], [], base⟩
        | _ => none
    | _ => none
def ev_alloc (E : Env S) (H : Hint S) (o : Oper) (t : Nat → TV S) (ob : Nat → Option (Obj S)) (base : Nat) (k : Eff S → Option R) (e : TypeId) : Option R :=
  match zeroT E.P e with
    | some z => k ⟨.ptr base 0 0, [], [(base, .box z)], base + 1⟩
    | none => none
def ev_box (E : Env S) (H : Hint S) (o : Oper) (t : Nat → TV S) (ob : Nat → Option (Obj S)) (base : Nat) (k : Eff S → Option R) (v : Operand) : Option R :=
  if (cellsOf (ev t v)).all aliveCell = true then k ⟨.ptr base 0 0, [], [(base, .box (cellsOf (ev t v)))], base + 1⟩ else none
def ev_build (E : Env S) (H : Hint S) (o : Oper) (t : Nat → TV S) (ob : Nat → Option (Obj S)) (base : Nat) (k : Eff S → Option R) (ty : TypeId) (ps : Array (Nat × Operand)) : Option R :=
  match zeroT E.P ty, places E.P ty with
    | some z, some pl => if (ps.toList.all fun p => (cellsOf (ev t p.2)).all aliveCell) = true then
        (match fillT pl z (ps.toList.map fun p => (p.1, ev t p.2)) with
        | some cs => k ⟨.agg cs, [], [], base⟩
        | none => none) else none
    | _, _ => none
def ev_load (E : Env S) (H : Hint S) (o : Oper) (t : Nat → TV S) (ob : Nat → Option (Obj S)) (base : Nat) (k : Eff S → Option R) (ty : TypeId) (a : Operand) : Option R :=
  let pure (v : Option (TV S)) (rd : List Nat) : Option R := match v with | some v => k ⟨v, rd, [], base⟩ | none => none
  match tyOf E.P ty, ev t a with
    | some (ag, n), .ptr nm i k' => match ob nm with
      | some (.box cs) => if i = 0 then (if ag = true then pure (takeCells ag n k' cs) [nm] else cellK cs k' fun v => k ⟨v, [nm], [], base⟩) else none
      | some (.row c xs _) => match xs[i]? with
        | some x => pure (takeCells ag n k' (E.enc c x)) [nm]
        | none => none
      | some (.deep c d) => openEval E base ag n nm i k' c d k
      | some (.raw s cs) => pure (takeCells ag n (i * s + k') cs) [nm]
      | _ => none
    | some (ag, n), .iptr c x k' => pure (takeCells ag n k' (E.enc c x)) []
    | _, _ => none
def ev_store (E : Env S) (H : Hint S) (o : Oper) (t : Nat → TV S) (ob : Nat → Option (Obj S)) (base : Nat) (k : Eff S → Option R) (ty : TypeId) (a : Operand) (v : Operand) : Option R :=
  match tyOf E.P ty, ev t a with
    | some (_, n), .ptr nm i k' =>
      let cs := cellsOf (ev t v)
      if cs.length = n ∧ cs.all aliveCell = true then
        match ob nm with
        | some (.box old) => if i = 0 ∧ k' + n ≤ old.length then k ⟨.undef, [nm], [(nm, .box (setCells old k' cs))], base⟩ else none
        | some (.row c xs .own) => match xs[i]? with
          | some x => match cs.mapM (pureOf ob) with
            | some cs' => if k' + n ≤ (E.enc c x).length ∧ (cs.flatMap rowName).contains nm = false then
                (match E.dec c (setCells (E.enc c x) k' cs') with
                | some x' => k ⟨.undef, nm :: cs.flatMap rowName, freezes ob (cs.flatMap rowName) ++ [(nm, .row c (xs.set i x') .own)], base⟩
                | none => none) else none
            | none => none
          | none => none
        | some (.deep c d) => if k' = 0 ∧ n = E.sz c then closeEval E ob base nm i c d cs k else none
        | some (.raw s old) => if 1 ≤ n ∧ i * s + k' + n ≤ old.length then k ⟨.undef, [nm], [(nm, .raw s (setCells old (i * s + k') cs))], base⟩ else none
        | _ => none
      else none
    | _, _ => none
def ev_nilCheck (E : Env S) (H : Hint S) (o : Oper) (t : Nat → TV S) (ob : Nat → Option (Obj S)) (base : Nat) (k : Eff S → Option R) (x : Operand) : Option R :=
  match ev t x with
    | .ptr nm i j => k ⟨.ptr nm i j, [], [], base⟩
    | .iptr c x j => k ⟨.iptr c x j, [], [], base⟩
    | _ => none
def ev_binOp (E : Env S) (H : Hint S) (o : Oper) (t : Nat → TV S) (ob : Nat → Option (Obj S)) (base : Nat) (k : Eff S → Option R) (op : BinOp) (xt : TypeId) (x : Operand) (y : Operand) : Option R :=
  binEvalK E.P op xt (ev t x) (ev t y) fun v => k ⟨v, [], [], base⟩
def ev_unOp (E : Env S) (H : Hint S) (o : Oper) (t : Nat → TV S) (ob : Nat → Option (Obj S)) (base : Nat) (k : Eff S → Option R) (op : UnOp) (x : Operand) : Option R :=
  let pure (v : Option (TV S)) (rd : List Nat) : Option R := match v with | some v => k ⟨v, rd, [], base⟩ | none => none
  pure (unEval op (ev t x)) []
def ev_convert (E : Env S) (H : Hint S) (o : Oper) (t : Nat → TV S) (ob : Nat → Option (Obj S)) (base : Nat) (k : Eff S → Option R) (a : TypeId) (b : TypeId) (x : Operand) : Option R :=
  match convEval E a b (ev t x) with
    | some v => k ⟨v, [], [], base⟩
    | none => match bytesEval E ob a b (ev t x) with
      | some (l, nm) => k ⟨.str l, [nm], [], base⟩
      | none => none
def ev_fieldAddr (E : Env S) (H : Hint S) (o : Oper) (t : Nat → TV S) (ob : Nat → Option (Obj S)) (base : Nat) (k : Eff S → Option R) (st : TypeId) (x : Operand) (f : Nat) : Option R :=
  match fieldOff E.P st f, ev t x with
    | some (off, _), .ptr nm i j => k ⟨.ptr nm i (j + off), [], [], base⟩
    | some (off, _), .iptr c x j => k ⟨.iptr c x (j + off), [], [], base⟩
    | _, _ => none
def ev_field (E : Env S) (H : Hint S) (o : Oper) (t : Nat → TV S) (ob : Nat → Option (Obj S)) (base : Nat) (k : Eff S → Option R) (st : TypeId) (x : Operand) (f : Nat) : Option R :=
  let pure (v : Option (TV S)) (rd : List Nat) : Option R := match v with | some v => k ⟨v, rd, [], base⟩ | none => none
  match fieldOff E.P st f, ev t x with
    | some (off, ft), .agg cs => match tyOf E.P ft with
      | some (ag, n) => pure (takeCells ag n off cs) []
      | none => none
    | _, _ => none
def ev_indexAddr (E : Env S) (H : Hint S) (o : Oper) (t : Nat → TV S) (ob : Nat → Option (Obj S)) (base : Nat) (k : Eff S → Option R) (ty : TypeId) (x : Operand) (i : Operand) : Option R :=
  match E.P.underlying ty, ev t i with
    | some (.slice e), .int _ n => if sliceOf E ob e (ev t x) = true then
      (match ev t x with
      | .slw nm => match ob nm with
        | some (.row _ xs _) => if 0 ≤ n ∧ n < xs.length then k ⟨.ptr nm n.toNat 0, [nm], [], base⟩ else none
        | _ => none
      | .sl nm off len => if 0 ≤ n ∧ n < len then k ⟨.ptr nm (off + n.toNat) 0, [nm], [], base⟩ else none
      | .tree c xs => (at? xs n).bind fun x => k ⟨.iptr c x 0, [], [], base⟩
      | _ => none) else boxAddr E ob base e (ev t x) n k
    | some (.array L e), .int _ n => match E.P.info? e, ev t x with
      | some inf, .ptr nm i j => if 0 ≤ n ∧ n < L then k ⟨.ptr nm i (j + n.toNat * inf.size), [], [], base⟩ else none
      | some inf, .iptr c z j => if 0 ≤ n ∧ n < L then k ⟨.iptr c z (j + n.toNat * inf.size), [], [], base⟩ else none
      | _, _ => none
    | _, _ => none
def ev_index (E : Env S) (H : Hint S) (o : Oper) (t : Nat → TV S) (ob : Nat → Option (Obj S)) (base : Nat) (k : Eff S → Option R) (ty : TypeId) (x : Operand) (i : Operand) : Option R :=
  match ev t i with
    | .int _ n => idxEval E.P (E.P.underlying ty) (ev t x) n fun v => k ⟨v, [], [], base⟩
    | _ => none
def ev_slice (E : Env S) (H : Hint S) (o : Oper) (t : Nat → TV S) (ob : Nat → Option (Obj S)) (base : Nat) (k : Eff S → Option R) (ty : TypeId) (x : Operand) (lo : Option Operand) (hi : Option Operand) (mx : Option Operand) : Option R :=
  match mx, E.P.underlying ty with
    | none, some .string => if isStr (ev t x) = true then sliceEval ob (ev t x) (lo.map (ev t)) (hi.map (ev t)) fun v rd => k ⟨v, rd, [], base⟩ else none
    | none, some (.slice e) => if sliceOf E ob e (ev t x) = true then sliceEval ob (ev t x) (lo.map (ev t)) (hi.map (ev t)) fun v rd => k ⟨v, rd, [], base⟩ else rawSlice E ob base e (ev t x) (lo.map (ev t)) (hi.map (ev t)) none k
    | some m, some (.slice e) => rawSlice E ob base e (ev t x) (lo.map (ev t)) (hi.map (ev t)) (some (ev t m)) k
    | _, _ => none
def ev_extract (E : Env S) (H : Hint S) (o : Oper) (t : Nat → TV S) (ob : Nat → Option (Obj S)) (base : Nat) (k : Eff S → Option R) (x : Operand) (i : Nat) : Option R :=
  let pure (v : Option (TV S)) (rd : List Nat) : Option R := match v with | some v => k ⟨v, rd, [], base⟩ | none => none
  match ev t x with
    | .tup vs => pure vs[i]? []
    | _ => none
def ev_makeFunc (E : Env S) (H : Hint S) (o : Oper) (t : Nat → TV S) (ob : Nat → Option (Obj S)) (base : Nat) (k : Eff S → Option R) (f : FuncId) (first : Array Operand) (cap : Array Operand) : Option R :=
  if first.size = 0 then k ⟨.fn f (cap.toList.map (ev t)), [], [], base⟩ else if cap.size = 0 then k ⟨.mv f (first.toList.map (ev t)), [], [], base⟩ else none
def ev_buildSlice (E : Env S) (H : Hint S) (o : Oper) (t : Nat → TV S) (ob : Nat → Option (Obj S)) (base : Nat) (k : Eff S → Option R) (ty : TypeId) (n : Nat) (ps : Array (Nat × Operand)) : Option R :=
  match E.P.underlying ty with
    | some (.slice e) => bif E.raw e then rawBuild E base e n (ps.toList.map (·.1)) (ps.toList.map fun p => ev t p.2) k else match E.code e with
      | some c => if (deepc E c && decide (n = 1) && decide (H.mode (o.dst.getD 0) = .app)) = true then boxSlice E base e n (ps.toList.map (·.1)) (ps.toList.map fun p => ev t p.2) k else if ps.toList.map (·.1) = List.range n ∧ n ≤ 1000 then
          let vs := ps.toList.map fun p => ev t p.2
          match vs.mapM (elem E ob c) with
          | some xs => k ⟨.slw base, vs.flatMap (fun v => (cellsOf v).flatMap rowName), freezes ob (vs.flatMap (fun v => (cellsOf v).flatMap rowName)) ++ [(base, .row c xs (H.mode (o.dst.getD 0)))], base + 1⟩
          | none => none
        else none
      | none => boxSlice E base e n (ps.toList.map (·.1)) (ps.toList.map fun p => ev t p.2) k
    | _ => none
def ev_makeSlice (E : Env S) (H : Hint S) (o : Oper) (t : Nat → TV S) (ob : Nat → Option (Obj S)) (base : Nat) (k : Eff S → Option R) (ty : TypeId) (l : Operand) (cp : Operand) : Option R :=
  match E.P.underlying ty, ev t l, ev t cp with
    | some (.slice e), .int .i64 n, .int .i64 m => bif E.raw e then rawMake E base e n m k else match E.code e, zeroT E.P e with
      | some c, some z => match E.dec c z with
        | some x => if (0 ≤ n ∧ n ≤ m ∧ m ≤ maxRow) ∧ z.all aliveCell = true then k ⟨.slw base, [], [(base, .row c (List.replicate n.toNat x) .own)], base + 1⟩ else none
        | none => none
      | _, _ => none
    | _, _, _ => none
def ev_builtin (E : Env S) (H : Hint S) (o : Oper) (t : Nat → TV S) (ob : Nat → Option (Obj S)) (base : Nat) (k : Eff S → Option R) (b : Builtin) (args : Array Operand) (argTypes : Array TypeId) : Option R :=
  let pure (v : Option (TV S)) (rd : List Nat) : Option R := match v with | some v => k ⟨v, rd, [], base⟩ | none => none
  match b, args.toList.map (ev t) with
    | .len, [.map nm] => match (argTypes[0]?).bind E.P.underlying, ob nm with
      | some (.map _ _), some (.mapo _ _ _ _ L _ _) => k ⟨.int .i64 L.length, [nm], [], base⟩
      | _, _ => none
    | .delete, [m, x] => match (argTypes[0]?).bind E.P.underlying with
      | some (.map kt _) => deleteEval E ob base kt m x k
      | _ => none
    | .clear, [x] => match (argTypes[0]?).bind E.P.underlying with
      | some (.slice e) => bif E.raw e then rawClear E ob base e x k else clearEval E ob base e x k
      | _ => none
    | .len, [x] => match lenT ((argTypes[0]?).bind E.P.underlying) ob x with
      | some n => k ⟨.int .i64 n, rowName x, [], base⟩
      | none => none
    | .append, [x, y] => match (argTypes[0]?).bind E.P.underlying, (argTypes[1]?).bind E.P.underlying with
      | some (.slice e), some (.slice _) => bif E.raw e then rawAppend E ob base e x y k else match E.code e with
        | some c => match boxOne E ob c y with
          | some (bn, cs) => appendDeep E ob base c x bn cs k
          | none => appendEval ob base (H.mode (o.dst.getD 0)) c x y k
        | none => none
      | _, _ => none
    | .min, x :: r => pure (minMax true x r) []
    | .max, x :: r => pure (minMax false x r) []
    | _, _ => none
def ev_callv (E : Env S) (H : Hint S) (o : Oper) (t : Nat → TV S) (ob : Nat → Option (Obj S)) (base : Nat) (k : Eff S → Option R) (f : Operand) (args : Array Operand) : Option R :=
  match ev t f with
    | .fn g cap => callEval E ob base g (args.toList.map (ev t) ++ cap) k
    | .mv g first => callEval E ob base g (first ++ args.toList.map (ev t)) k
    | _ => none
/-- opEval in small parts. -/
def opEvalF (E : Env S) (H : Hint S) (o : Oper) (t : Nat → TV S) (ob : Nat → Option (Obj S)) (base : Nat) (k : Eff S → Option R) : Option R :=
  match o.op with
  | .move x | .assign x => ev_move E H o t ob base k x
  | .pick c a b => ev_pick E H o t ob base k c a b
  | .alloc e => ev_alloc E H o t ob base k e
  | .box _ v => ev_box E H o t ob base k v
  | .build ty ps => ev_build E H o t ob base k ty ps
  | .load ty a => ev_load E H o t ob base k ty a
  | .store ty a v => ev_store E H o t ob base k ty a v
  | .nilCheck x => ev_nilCheck E H o t ob base k x
  | .binOp op xt x y _ => ev_binOp E H o t ob base k op xt x y
  | .unOp op _ x => ev_unOp E H o t ob base k op x
  | .convert a b x => ev_convert E H o t ob base k a b x
  | .fieldAddr st x f => ev_fieldAddr E H o t ob base k st x f
  | .field st x f => ev_field E H o t ob base k st x f
  | .indexAddr ty x i => ev_indexAddr E H o t ob base k ty x i
  | .index ty x i => ev_index E H o t ob base k ty x i
  | .slice ty x lo hi mx => ev_slice E H o t ob base k ty x lo hi mx
  | .extract x i => ev_extract E H o t ob base k x i
  | .makeFunc (.func f) first cap => ev_makeFunc E H o t ob base k f first cap
  | .buildSlice ty n ps => ev_buildSlice E H o t ob base k ty n ps
  | .makeSlice ty l cp => ev_makeSlice E H o t ob base k ty l cp
  | .call { callee := .builtin b, args, argTypes } => ev_builtin E H o t ob base k b args argTypes
  | .call { callee := .value f, args, .. } => ev_callv E H o t ob base k f args
  | _ => mapEval E o t ob base k
theorem opEvalF_eq (E : Env S) (H : Hint S) (o : Oper) (t : Nat → TV S) (ob : Nat → Option (Obj S)) (base : Nat) (k : Eff S → Option R) : opEvalF E H o t ob base k = opEval E H o t ob base k := by
  obtain ⟨dst, op, ty, pos, after, guard⟩ := o
  cases op with
  | call c =>
    obtain ⟨cal, args, ats⟩ := c
    cases cal <;> rfl
  | makeFunc fn first cap => cases fn <;> rfl
  | _ => rfl

/-! ### regions -/
def putDst (t : Nat → TV S) (d : Option Tmp) (v : TV S) : Nat → TV S :=
  match d with
  | some d => setF t d v
  | none => t

def St.after (st : St S) (o : Oper) (e : Eff S) : St S := ⟨putDst st.t o.dst e.v, setAll st.o e.wr, e.nx⟩

def dstOk (nt : Nat) : Option Tmp → Bool
  | some d => decide (d < nt)
  | none => true

/-- The operations up to the 'pick' over slot d; it; those behind it. -/
def findPick (d : Tmp) : List Oper → Option (List Oper × Oper × List Oper)
  | [] => none
  | o :: r => match o.op with
    | .pick (.tmp c) _ _ => if c = d then some ([], o, r) else (findPick d r).map fun (g, p, r') => (o :: g, p, r')
    | _ => (findPick d r).map fun (g, p, r') => (o :: g, p, r')

def killAll (t : Nat → TV S) : List Oper → Nat → TV S
  | [] => t
  | o :: r => killAll (putDst t o.dst .dead) r

def boolOf : TV S → Option Bool
  | .bool b => some b
  | _ => none

/-- What is known of an operation's effect beside its value: the names that it reads (none: unknown), those that it writes. -/
structure Foot where
  rd : Option (List Nat)
  wr : List Nat
def Eff.foot (e : Eff S) : Foot := ⟨some e.rd, e.wr.map (·.1)⟩
def Foot.top : Foot := ⟨none, []⟩
def quietF (f : Foot) : Bool := f.wr.isEmpty

/-- Does an operation run? (none: not known) -/
def wantedT (ops : Array Oper) (t : Nat → TV S) (o : Oper) : Option Bool :=
  match o.guard with
  | none => some true
  | some (j, w) => match (ops[j]?).bind (·.dst) with
    | none => some false
    | some d => match t d with
      | .bool b => some (b == w)
      | .undef => some false
      | _ => none

/-- Operations none of which runs. -/
def skipRun (ops : Array Oper) (nt : Nat) : List Oper → (Nat → TV S) → Option (Nat → TV S)
  | [], t => some t
  | o :: r, t => match wantedT ops t o with
    | some false => if dstOk nt o.dst = true then skipRun ops nt r (putDst t o.dst .undef) else none
    | _ => none

def isBool (x : TV S) (b : Bool) : Bool :=
  match x with
  | .bool q => q == b
  | _ => false
def isSome' (x : Option Bool) (b : Bool) : Bool :=
  match x with
  | some q => q == b
  | none => false

end cps

def guardIn (as : List (Nat × Bool)) (o : Oper) : Bool :=
  match o.guard with
  | none => true
  | some g => as.contains g
/-- What 'pick' takes. -/
def pickOp (p : Oper) : Option (Operand × Operand) :=
  match p.op with
  | .pick _ a b => some (a, b)
  | _ => none

def runC (E : Env S) (H : Hint S) (nt : Nat) (ops : Array Oper) : Nat → (R : Type) → List (Nat × Bool) → List Oper → St S → List Foot → (St S → List Foot → Option R) → Option R
  | 0, _, _, _, _, _, _ => none
  | _ + 1, _, _, [], st, fs, k => k st fs
  | n + 1, R, as, o :: r, st, fs, k =>
    if guardIn as o = true then
      if (dstOk nt o.dst && isSome' (wantedT ops st.t o) true) = true then
        opEvalF E H o st.t st.o st.next fun e => runC E H nt ops n R as r (st.after o e) (e.foot :: fs) k
      else none
    else match o.guard with
      | none => none
      | some (j, w) => match (ops[j]?).bind (·.dst) with
        | none => none
        | some d => if H.fork = true then
            (match st.t d with
            | .bool q => if (q == w) = true then runC E H nt ops n R ((j, w) :: as) (o :: r) ⟨setF st.t d (.bool w), st.o, st.next⟩ fs k
              else (match findPick d (o :: r) with
                | none => none
                | some (g, p, rest) => match skipRun ops nt g (setF st.t d (.bool (!w))) with
                  | some t1 => runC E H nt ops n R as (p :: rest) ⟨t1, st.o, st.next⟩ ((g.map fun _ => (⟨some [], []⟩ : Foot)) ++ fs) k
                  | none => none)
            | _ => none)
          else match findPick d (o :: r) with
          | none => none
          | some (g, p, rest) => match st.t d, pickOp p with
            | .bool q, some (a, b) =>
              if dstOk nt p.dst = true then
                (ifB q w
                  (runC E H nt ops n Bool ((j, w) :: as) g ⟨setF st.t d (.bool w), st.o, st.next⟩ [] fun st' fs' =>
                    if (fs'.all quietF && (isSome' (wantedT ops st'.t p) true && isBool (st'.t d) w)) = true then boolOf (ev st'.t (bif w then a else b)) else none)
                  (match skipRun ops nt g (setF st.t d (.bool (!w))) with
                  | some t1 => if (isSome' (wantedT ops t1 p) true && isBool (t1 d) (!w)) = true then boolOf (ev t1 (bif w then b else a)) else none
                  | none => none)).bind fun res =>
                runC E H nt ops n R as rest ⟨putDst (killAll st.t g) p.dst (.bool res), st.o, st.next⟩ (⟨some [], []⟩ :: (g.map fun _ => Foot.top) ++ fs) k
              else none
            | _, _ => none

def disj (a b : List Nat) : Bool := a.all fun x => !b.contains x
/-- Effects that may come in either order. -/
def Foot.apart (a b : Foot) : Bool :=
  (a.wr.isEmpty && b.wr.isEmpty) ||
  (disj a.wr b.wr && (a.wr.isEmpty || (match b.rd with | some r => disj a.wr r | none => false)) && (b.wr.isEmpty || (match a.rd with | some r => disj b.wr r | none => false)))
/-- Which operations each waits for, as bits. -/
def bitsOf (acc : List Nat) (o : Oper) : Nat := o.after.toList.foldl (fun s e => if Region.binds .any e then s ||| 2 ^ e.on ||| acc.getD e.on 0 else s) 0
def befores : List Oper → List Nat → List Nat
  | [], acc => acc
  | o :: r, acc => befores r (acc ++ [bitsOf acc o])
def edgesOk (ops : Array Oper) : Bool := ops.toList.zipIdx.all fun p => p.1.after.toList.all fun e => !Region.binds .any e || decide (e.on < p.2)

/-- Two operations of a region, the second not waiting for the first: neither looks at what the other writes. -/
def pairsOk {α : Type} (f : α → α → Bool) (bits : List Nat) (xs : List α) : Bool :=
  let l := bits.zip xs
  l.zipIdx.all fun p => (l.take p.2).zipIdx.all fun q => p.1.1.testBit q.2 || f q.1.2 p.1.2

def regionEval {R : Type} (E : Env S) (H : Hint S) (nt : Nat) (ops : Array Oper) (draw : Bool) (st : St S) (k : St S → Option R) : Option R :=
  if draw = true then
    (if (edgesOk ops && (Region.noSelect ops && pairsOk (fun x y => x.apart ops y) (befores ops.toList []) ops.toList)) = true then
      runC E H nt ops (2 * ops.size + 2) R [] ops.toList st [] fun st' fs => if ((fs.all fun f => f.wr.isEmpty) || pairsOk Foot.apart (befores ops.toList []) fs.reverse) = true then k st' else none
    else none)
  else runC E H nt ops (2 * ops.size + 2) R [] ops.toList st [] fun st' _ => k st'

/-! ### calls with more than one outcome -/
def callEvalM {R : Type} (E : Env S) (H : Hint S) (o : Nat → Option (Obj S)) (base : Nat) (f : FuncId) (args : List (TV S)) (k : Eff S → Option R) : Option R :=
  match shareArgs E o f 0 args with
  | none => none
  | some args' =>
    let ks := reach o 400 (namesL args') []
    if closedUnder o ks (namesL args') = true then
      H.callm f (renL (fun n => ks.idxOf n) args') (ks.map fun n => renObj (fun n => ks.idxOf n) ((o n).getD .gone)) R fun r =>
        if xsOk ks.length r.xs = true then
          k ⟨ren (backTo ks base) r.v, namesL args ++ ks,
            zipBack ks base r.xs ++ (r.ns.zipIdx.map fun p => (base + p.2, renObj (backTo ks base) p.1)),
            base + r.ns.length⟩
        else none
    else none
def multiCall (H : Hint S) (t : Nat → TV S) (o : Oper) : Option (FuncId × List (TV S)) :=
  match o.op with
  | .call { callee := .value f, args, .. } => match ev t f with
    | .fn g cap => bif H.multi g then some (g, args.toList.map (ev t) ++ cap) else none
    | _ => none
  | _ => none
/-- The operations of a region, one by one. -/
def runM {R : Type} (E : Env S) (H : Hint S) (nt : Nat) (ops : Array Oper) : Nat → List Oper → St S → (St S → Option R) → Option R
  | 0, _, _, _ => none
  | _ + 1, [], st, k => k st
  | n + 1, o :: r, st, k => match o.guard with
    | none => if dstOk nt o.dst = true then
        (match multiCall H st.t o with
        | some (g, args) => callEvalM E H st.o st.next g args fun e => runM E H nt ops n r (st.after o e) k
        | none => opEvalF E H o st.t st.o st.next fun e => runM E H nt ops n r (st.after o e) k) else none
    | some (j, _) => match (ops[j]?).bind (·.dst) with
      | none => none
      | some d => match findPick d (o :: r) with
        | none => none
        | some (g, p, rest) => runC E H nt ops (2 * ops.size + 2) R [] (g ++ [p]) st [] fun st' _ => runM E H nt ops n rest st' k

/-! ### .. in regions whose order is drawn -/
/-- May operations that a call does not wait for come before it or after it? -/
def floatOk (bits : Nat) (fs : List Foot) (touched : List Nat) (base : Nat) : Bool :=
  fs.zipIdx.all fun p => bits.testBit p.2 || (p.1.wr.isEmpty && match p.1.rd with
    | some rd => disj rd touched && rd.all fun n => decide (n < base)
    | none => false)
/-- Each operation, in the order of the text; a call with many outcomes has all those behind it wait for it. -/
def runD {R : Type} (E : Env S) (H : Hint S) (nt : Nat) (bits : List Nat) : List Oper → St S → List Foot → (St S → Option R) → Option R
  | [], st, _, k => k st
  | o :: r, st, fs, k => if (o.guard.isNone && dstOk nt o.dst) = true then
      (match multiCall H st.t o with
      | some (g, args) => match shareArgs E st.o g 0 args with
        | none => none
        | some args' => if ((bits.drop (fs.length + 1)).all (fun s => s.testBit fs.length) && floatOk (bits.getD fs.length 0) fs (reach st.o 400 (namesL args') []) st.next) = true then
            callEvalM E H st.o st.next g args fun e => runD E H nt bits r (st.after o e) (fs ++ [e.foot]) k
          else none
      | none => opEvalF E H o st.t st.o st.next fun e => if (fs.zipIdx.all fun p => (bits.getD fs.length 0).testBit p.2 || p.1.apart e.foot) = true then runD E H nt bits r (st.after o e) (fs ++ [e.foot]) k else none)
    else none
/-- The operations in another order. -/
def reOper (ρ : Nat → Nat) (o : Oper) : Oper := { o with after := o.after.map fun e => { e with on := ρ e.on } }
def permOk (π : List Nat) (ops : Array Oper) : Bool :=
  decide (π.length = ops.size) && (List.range ops.size).all (fun i => π.contains i) && (List.range π.length).all (fun j => match π[j]? with | some i => decide (i < ops.size) && π.idxOf i == j | none => false) && ops.toList.all fun o => o.guard.isNone && o.after.toList.all fun e => decide (e.on < ops.size)
def permOps (π : List Nat) (ops : Array Oper) : Array Oper := (π.filterMap fun i => (ops[i]?).map (reOper fun j => π.idxOf j)).toArray
def regionD {R : Type} (E : Env S) (H : Hint S) (nt : Nat) (ops : Array Oper) (st : St S) (k : St S → Option R) : Option R :=
  if (edgesOk ops && pairsOk (fun x y => x.apart ops y) (befores ops.toList []) ops.toList) = true then runD E H nt (befores ops.toList []) ops.toList st [] k else none
def regionP {R : Type} (E : Env S) (H : Hint S) (nt : Nat) (π : List Nat) (ops : Array Oper) (st : St S) (k : St S → Option R) : Option R :=
  if permOk π ops = true then regionD E H nt (permOps π ops) st k else none

/-! ### loops' heads and ends -/
def fixVal (k : LK S) (o : Nat → Option (Obj S)) (next : Nat) (v : TV S) : Option (TV S × List (Nat × Obj S) × Nat) :=
  match k, v with
  | .row c m, .nils => some (.slw next, [(next, .row c [] m)], next + 1)
  | .row _ _, v => some (v, [], next)
  | .fresh c m, .nils => some (.slw next, [(next, .row c [] m)], next + 1)
  | .fresh _ _, .slw nm => match o nm with
    | some (.row c xs .app) => some (.slw next, [(nm, .row c xs .ro), (next, .row c xs .app)], next + 1)
    | some (.row c xs .own) => some (.slw next, [(nm, .gone), (next, .row c xs .own)], next + 1)
    | _ => none
  | .fresh _ _, .sl nm 0 len => match o nm with
    | some (.row c xs .own) => some (.slw next, [(nm, .gone), (next, .row c (xs.take len) .own)], next + 1)
    | _ => none
  | .fresh _ _, .map nm => match o nm with
    | some (.mapo ag sh vag vc L ex cl) => some (.map next, [(nm, .gone), (next, .mapo ag sh vag vc L ex cl)], next + 1)
    | _ => none
  | .fresh _ _, _ => none
  | .deep c, .nils => some (.slw next, [(next, .deep c (.full []))], next + 1)
  | .deep _, v => some (v, [], next)
  | .tree c, .nils => some (.tree c [], [], next)
  | .tree _, .slw nm => match o nm with
    | some (.row c xs .own) => if tok c xs = true then some (.tree c xs, [(nm, .row c xs .ro)], next) else none
    | some (.row c xs m) => if tokM c xs m = true then some (.tree c xs, [], next) else none
    | some (.deep c (.full xs)) => if tok c xs = true then some (.tree c xs, [(nm, .row c xs .ro)], next) else none
    | _ => none
  | .tree _, .sl nm off len => match o nm with
    | some (.row c xs .own) => if tok c ((xs.drop off).take len) = true then some (.tree c ((xs.drop off).take len), [(nm, .row c xs .ro)], next) else none
    | some (.row c xs _) => if tok c ((xs.drop off).take len) = true then some (.tree c ((xs.drop off).take len), [], next) else none
    | _ => none
  | .tree _, v => some (v, [], next)

def follow (o : Nat → Option (Obj S)) : TV S → List Nat → Option (Nat × Nat)
  | .ptr nm _ _, [i] => some (nm, i)
  | .ptr nm _ _, i :: r => match o nm with
    | some (.box cs) => match cs[i]? with
      | some v => follow o v r
      | none => none
    | _ => none
  | _, _ => none

/-- A cell of an aggregate in a slot. -/
def aggCell (v : TV S) (p : List Nat) : Option (List (TV S) × Nat × TV S) :=
  match v, p with
  | .agg cs, [i] => (cs[i]?).map fun x => (cs, i, x)
  | _, _ => none
def fixOne (st : St S) (g : Tgt) (k : LK S) : Option (St S) :=
  match g.path with
  | [] => (fixVal k st.o st.next (st.t g.slot)).map fun (v, wr, nx) => ⟨setF st.t g.slot v, setAll st.o wr, nx⟩
  | p => match aggCell (st.t g.slot) p with
   | some (cs, i, x) => (fixVal k st.o st.next x).map fun (v, wr, nx) => ⟨setF st.t g.slot (.agg (cs.set i v)), setAll st.o wr, nx⟩
   | none =>
    match follow st.o (st.t g.slot) p with
    | some (nm, i) => match st.o nm with
      | some (.box cs) => match cs[i]? with
        | some v => (fixVal k st.o st.next v).map fun (v, wr, nx) => ⟨st.t, setF (setAll st.o wr) nm (some (.box (cs.set i v))), nx⟩
        | none => none
      | _ => none
    | none => none

def fixAll (st : St S) : List (Tgt × LK S) → Option (St S)
  | [] => some st
  | (g, k) :: r => match fixOne st g k with
    | some st => fixAll st r
    | none => none

def kids (o : Nat → Option (Obj S)) (m : Nat) : List Nat := (List.range m).flatMap (kidsAt o)

def tabT : List Nat → List (TV S) → Nat → TV S
  | n :: ns, v :: vs, i => bif Nat.beq i n then v else tabT ns vs i
  | _, _, _ => .dead
/-- A state out of the slots that live on and the objects. -/
def mkSt (live : List Nat) (vals : List (TV S)) (objs : List (Obj S)) : St S := ⟨tabT live vals, fun i => objs[i]?, objs.length⟩

/-- Only the slots that live on, only the objects that can be come to, counted anew; those that came in keep their numbers. -/
def tidy (m : Nat) (live : List Nat) (st : St S) : Option (List (TV S) × List (Obj S)) :=
  let roots := List.range m ++ live.flatMap fun s => namesOf (st.t s)
  let ks := reach st.o 400 (kids st.o m ++ live.flatMap fun s => namesOf (st.t s)) (List.range m)
  if closedUnder st.o ks roots = true then
    some (live.map fun i => ren (fun n => ks.idxOf n) (st.t i), ks.map fun n => renObj (fun n => ks.idxOf n) ((st.o n).getD .gone))
  else none

def headOf (m : Nat) (live : List Nat) (fix : List (Tgt × LK S)) (st : St S) : Option (List (TV S) × List (Obj S)) :=
  match fixAll st fix with
  | some st' => tidy m live st'
  | none => none

/-! ### ranges over maps -/
def allK {α R : Type} (k : α → Option R) : α → List α → Option R
  | x, [] => k x
  | x, y :: r => match k x, allK k y r with
    | some a, some _ => some a
    | _, _ => none
/-- A step of a range: nothing is left, or any one that is left. -/
def nextC {α R : Type} (since : Nat) (seen : List Nat) (stepped : Nat) (L : List (List Sc × α × Nat)) (fin : Option R) (k : List Sc × α × Nat → Option R) : Option R :=
  if ((seen.isEmpty || (L.isEmpty || L.any fun e => decide (e.2.2 < stepped))) && L.all fun e => decide (e.2.2 < since)) = true then
    match L.filter fun e => !seen.contains e.2.2 with
    | [] => fin
    | x :: r => allK k x r
  else none
def nextIn : List Oper → Option (Oper × Operand × List Oper)
  | o :: r => match o.op, o.guard with
    | .next it false, none => some (o, it, r)
    | _, _ => none
  | [] => none
def nextEval {R : Type} (E : Env S) (H : Hint S) (nt : Nat) (ops : Array Oper) (o : Oper) (it : Operand) (rest : List Oper) (st : St S) (k : St S → Option R) : Option R :=
  match ev st.t it with
  | .ptr nm 0 0 => match st.o nm with
    | some (.iter mp since seen stepped) => match st.o mp with
      | some (.mapo _ _ _ _ L true cl) =>
        if dstOk nt o.dst = true then
          nextC since seen stepped L
            (runC E H nt ops (2 * ops.size + 2) R [] rest ⟨putDst st.t o.dst (.tup [.bool false]), st.o, st.next⟩ [] fun st' _ => k st')
            fun e => runC E H nt ops (2 * ops.size + 2) R [] rest ⟨putDst st.t o.dst (.tup [.bool true, .dead, .dead]), setF st.o nm (some (.iter mp since (e.2.2 :: seen) cl)), st.next⟩ [] fun st' _ => k st'
        else none
      | _ => none
    | _ => none
  | _ => none

/-! ### code -/
/-- What follows a round. -/
def roundK {R : Type} (hd : St S → Option (List (TV S) × List (Obj S))) (out : Ex → St S → Option (List (TV S) × List (Obj S))) (rec : List (TV S) → List (Obj S) → Option R) (K : Ex → List (TV S) → List (Obj S) → Option R) (e : Ex) (s' : St S) : Option R :=
  match e with
    | .normal => (match hd s' with
      | some (vals', objs') => rec vals' objs'
      | none => none)
    | e => (match out e s' with
      | some (vals', objs') => K e vals' objs'
      | none => none)
def loopN {R : Type} (body : List (TV S) → List (Obj S) → (Ex → St S → Option R) → Option R) (hd : St S → Option (List (TV S) × List (Obj S))) (out : Ex → St S → Option (List (TV S) × List (Obj S))) : Nat → List (TV S) → List (Obj S) → (Ex → List (TV S) → List (Obj S) → Option R) → Option R
  | 0, _, _, _ => none
  | n + 1, vals, objs, K => body vals objs (roundK hd out (fun v o => loopN body hd out n v o K) K)
theorem loopN_succ {R : Type} (body : List (TV S) → List (Obj S) → (Ex → St S → Option R) → Option R) (hd : St S → Option (List (TV S) × List (Obj S))) (out : Ex → St S → Option (List (TV S) × List (Obj S))) (n : Nat) (vals : List (TV S)) (objs : List (Obj S)) (K : Ex → List (TV S) → List (Obj S) → Option R) :
    loopN body hd out (n + 1) vals objs K = body vals objs (roundK hd out (fun v o => loopN body hd out n v o K) K) := rfl

def firstReg : Code → Option Nat
  | .region id _ _ => some id
  | .seq a b => match firstReg a with
    | some i => some i
    | none => firstReg b
  | .cond _ a b => match firstReg a with
    | some i => some i
    | none => firstReg b
  | .block _ c => firstReg c
  | .loop c => firstReg c
  | _ => none
def cutAt (H : Hint S) (b : Code) : Option (LHint S) := match firstReg b with
  | some i => H.cuts i
  | none => none
def cutK {R : Type} (m : Nat) (out : Ex → List Nat × List (Tgt × LK S)) (K : Ex → List (TV S) → List (Obj S) → Option R) (e : Ex) (st : St S) : Option R :=
  match headOf m (out e).1 (out e).2 st with
  | some (vals, objs) => K e vals objs
  | none => none
def tcode {R : Type} (E : Env S) (H : Hint S) (m nt N : Nat) : Code → Nat → St S → (Ex → St S → Option R) → Option R
  | .skip, _, st, K => K .normal st
  | .region id ops draw, _, st, K => if (H.nd && !draw) = true then
      (match nextIn ops.toList with
      | some (o, it, rest) => nextEval E H nt ops o it rest st fun st' => K .normal st'
      | none => runM E H nt ops (ops.size + 1) ops.toList st fun st' => K .normal st')
    else match (bif H.nd then H.dr id else none) with
      | some π => regionP E H nt π ops st fun st' => K .normal st'
      | none => regionEval E H nt ops draw st fun st' => K .normal st'
  | .seq a b, cur, st, K => tcode E H m nt N a cur st fun e st' => match e with
    | .normal => match cutAt H b with
      | none => tcode E H m nt N b cur st' K
      | some J => match headOf m J.live J.fix st' with
        | none => none
        | some (vals, objs) => match J.oracle with
          | some L => L R vals objs fun e vals objs => K e (mkSt (J.out e).1 vals objs)
          | none => tcode E H m nt N b cur (mkSt J.live vals objs) K
    | e => K e st'
  | .cond c x y, cur, st, K => match ev st.t c with
    | .bool q => if q = true then tcode E H m nt N x cur st K else tcode E H m nt N y cur st K
    | _ => none
  | .block id c, _, st, K => tcode E H m nt N c id st fun e st' => match e with
    | .exit i => if i = id then K .normal st' else K (.exit i) st'
    | e => K e st'
  | .loop c, cur, st, K => match H.loops cur with
    | none => none
    | some h => match headOf m h.live h.fix st with
      | none => none
      | some (vals, objs) => match h.oracle with
        | some L => L R vals objs fun e vals objs => K e (mkSt (h.out e).1 vals objs)
        | none => loopN (fun vals objs k => tcode E H m nt N c cur (mkSt h.live vals objs) k) (headOf m h.live h.fix) (fun e => headOf m (h.out e).1 (h.out e).2) N vals objs fun e vals objs => K e (mkSt (h.out e).1 vals objs)
  | .exit id, _, st, K => K (.exit id) st
  | .ret, _, st, K => K .ret st
  | _, _, _, _ => none

/-- What is said of loops is so. -/
def LoopsOK (E : Env S) (H : Hint S) (m nt N : Nat) : Code → Nat → Prop
  | .seq a b, cur => LoopsOK E H m nt N a cur ∧ LoopsOK E H m nt N b cur ∧ ∀ J L, cutAt H b = some J → J.oracle = some L → ∀ (R : Type) (vals : List (TV S)) (objs : List (Obj S)) (K : Ex → List (TV S) → List (Obj S) → Option R) (r : R), L R vals objs K = some r →
      tcode E H m nt N b cur (mkSt J.live vals objs) (cutK m J.out K) = some r
  | .cond _ a b, cur => LoopsOK E H m nt N a cur ∧ LoopsOK E H m nt N b cur
  | .block id c, _ => LoopsOK E H m nt N c id
  | .loop c, cur => LoopsOK E H m nt N c cur ∧ ∀ h L, H.loops cur = some h → h.oracle = some L → ∀ (R : Type) (vals : List (TV S)) (objs : List (Obj S)) (K : Ex → List (TV S) → List (Obj S) → Option R) (r : R), L R vals objs K = some r →
      loopN (fun vals objs k => tcode E H m nt N c cur (mkSt h.live vals objs) k) (headOf m h.live h.fix) (fun e => headOf m (h.out e).1 (h.out e).2) N vals objs K = some r
  | _, _ => True

/-! ### functions -/
def resVal (E : Env S) (st : St S) : ResultVar → Option (TV S)
  | .tmp t => some (st.t t)
  | .cell a ty => match tyOf E.P ty, behind E st.o (st.t a) with
    | some (ag, n), some (cs, k, _) => takeCells ag n k cs
    | _, _ => none

def tupOf : List (TV S) → TV S
  | [v] => v
  | vs => .tup vs
def finish (E : Env S) (fn : Func) (m : Nat) (st : St S) : Option (Res S) :=
  match fn.results.toList.mapM (resVal E st) with
  | none => none
  | some vs =>
    let ks := reach st.o 400 (kids st.o m ++ namesOf (tupOf vs)) (List.range m)
    if closedUnder st.o ks (List.range m ++ namesOf (tupOf vs)) = true then
      some ⟨ren (fun n => ks.idxOf n) (tupOf vs), some ((ks.take m).map fun n => renObj (fun n => ks.idxOf n) ((st.o n).getD .gone)), (ks.drop m).map fun n => renObj (fun n => ks.idxOf n) ((st.o n).getD .gone)⟩
    else none

def startSt (args : List (TV S)) (objs : List (Obj S)) : St S := ⟨fun i => args.getD i .undef, fun i => objs[i]?, objs.length⟩

def runFn {R : Type} (E : Env S) (H : Hint S) (N : Nat) (fn : Func) (args : List (TV S)) (objs : List (Obj S)) (K : Res S → Option R) : Option R :=
  match fn.body with
  | none => none
  | some c => tcode E H objs.length fn.ntmps N c 0 (startSt args objs) fun e st => match e with
    | .exit _ => none
    | _ => match fixAll st H.exit with
      | some st' => (match finish E fn objs.length st' with
        | some r => K r
        | none => none)
      | none => none

end TE
