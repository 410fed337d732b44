/-
  A symbolic executor for a part of the model's code: definitions only. It carries out the operations on abstract values ('A': one cell; 'W': a value; 'V': a slot), over boxes that the call itself has made, and yields a tree of outcomes. Its soundness is proved in the texts that follow. Conditions: none (definitions).
-/
import Derived.WalkKit
import Derived.Deep.QuietTactic
import Derived.BigQuiet
namespace Go.Sx

/-- What one cell holds. 'lit': the number or Bool is a closed literal. -/
inductive A where
  | bool (lit : Bool) (b : Bool)
  | int (lit : Bool) (k : IntKind) (n : Int)
  | str (s : ByteArray)
  | loc (b off : Nat)
  | nilp
  | nilsl
  | lst (e : Nat) (hb : Bool) (n : Nat) (get : Nat → List A) (ys : List (List A))
  | tip (h : Nat)
  | fp (cells : List A)
  | sp (h : Nat) (lit : Bool) (i off : Nat)
  | clo (f : FuncId) (caps : List A)
  | raw (v : Value)
  | junk
  deriving Inhabited

/-- A value: one cell, the cells of a struct or an array, or anything. -/
inductive W where
  | one (a : A)
  | agg (l : List A)
  | junk
  deriving Inhabited

/-- What a slot holds. -/
inductive V where
  | w (x : W)
  | tup (l : List W)
  deriving Inhabited

/-- A tree of outcomes: 'br b t f': t if b, else f. -/
inductive RT (α : Type) where
  | leaf (a : α)
  | br (b : Bool) (t f : RT α)

def RT.val {α : Type} : RT α → α
  | .leaf a => a
  | .br b t f => cond b t.val f.val
def RT.bind {α β : Type} (t : RT α) (f : α → RT β) : RT β :=
  match t with
  | .leaf a => f a
  | .br b t e => .br b (t.bind f) (e.bind f)
def RT.map {α β : Type} (f : α → β) : RT α → RT β
  | .leaf a => .leaf (f a)
  | .br b t e => .br b (t.map f) (e.map f)

/-- A slice that the call itself has made: e cells an element, of type T; its elements: those of a base (n, get), if there is one, and then ys. -/
structure Stg where
  e : Nat
  T : TypeId
  hb : Bool
  n : Nat
  get : Nat → List A
  ys : List (List A)
  fzn : Bool
  deriving Inhabited

structure Mem where
  boxes : List (List A)
  stgs : List Stg

/-- dirty, bd: the slots, the cells of boxes that were written since the last fork; sd: a slice was. -/
structure St where
  slots : List V
  mem : Mem
  dirty : List Nat
  bd : List (Nat × Nat)
  sd : Bool

inductive K where
  | normal
  | exit (id : Nat)
  | ret
  | stop

structure Out where
  k : K
  s : St

/-- What a call does to memory: boxes that hold other cells, new slices. -/
structure Upd where
  boxes : List (Nat × List A)
  news : List Stg
/-- What is known of a call: a check and the result; of one that changes memory, how. -/
inductive Entry where
  | pure (p : List V → Option (Option Bool × V))
  | mem (g : List V → Mem → Option (Option Bool × V × Upd))
abbrev Ora := St → RT Out

structure Env where
  P : Program
  calls : FuncId → Option Entry
  loops : Nat → Option Ora
  named : Nat
  fuel : Nat

def nth {α : Type} : List α → Nat → Option α
  | [], _ => none
  | a :: _, 0 => some a
  | _ :: l, n + 1 => nth l n
def setN {α : Type} : List α → Nat → α → List α
  | [], _, _ => []
  | _ :: l, 0, x => x :: l
  | a :: l, n + 1, x => a :: setN l n x
def takeN {α : Type} : Nat → List α → Option (List α)
  | 0, _ => some []
  | _ + 1, [] => none
  | n + 1, a :: l => match takeN n l with
    | some r => some (a :: r)
    | none => none
def dropN {α : Type} : Nat → List α → List α
  | 0, l => l
  | _ + 1, [] => []
  | n + 1, _ :: l => dropN n l
def putN {α : Type} : List α → Nat → List α → Option (List α)
  | l, _, [] => some l
  | l, o, x :: xs => match nth l o with
    | some _ => putN (setN l o x) (o + 1) xs
    | none => none
def memN : List Nat → Nat → Bool
  | [], _ => false
  | a :: l, n => Nat.beq a n || memN l n
def len {α : Type} : List α → Nat
  | [] => 0
  | _ :: l => len l + 1

/-! ### values -/
def atomOf : Value → Option A
  | .bool b => some (.bool true b)
  | .int k n => match decide (k.min ≤ n) && decide (n ≤ k.max) with
    | true => some (.int true k n)
    | false => none
  | .string s => some (.str s)
  | .pointer none => some .nilp
  | .slice none 0 0 => some .nilsl
  | .nilFunc => some (.raw .nilFunc)
  | .nilIface => some (.raw .nilIface)
  | .map none => some (.raw (.map none))
  | _ => none
def atomsOf : List Value → Option (List A)
  | [] => some []
  | v :: l => match atomOf v, atomsOf l with
    | some a, some r => some (a :: r)
    | _, _ => none
def ofValue (v : Value) : Option W :=
  match v with
  | .agg cs => (atomsOf cs.toList).map .agg
  | v => (atomOf v).map .one
def W.cells : W → Option (List A)
  | .one a => some [a]
  | .agg l => some l
  | .junk => none
def V.one : V → Option A
  | .w (.one a) => some a
  | _ => none
def V.cells : V → Option (List A)
  | .w x => x.cells
  | _ => none

def opd (s : St) : Operand → Option V
  | .tmp t => nth s.slots t
  | .const v => (ofValue v).map .w
  | .func f => some (.w (.one (.clo f [])))
  | .global _ => none
def opd1 (s : St) (x : Operand) : Option A := (opd s x).bind V.one
def opdC (s : St) (x : Operand) : Option (List A) := (opd s x).bind V.cells
def opds (s : St) : List Operand → Option (List V)
  | [] => some []
  | x :: l => match opd s x, opds s l with
    | some v, some r => some (v :: r)
    | _, _ => none

/-! ### merging -/
def mB (c : Bool) (l1 : Bool) (x : Bool) (l2 : Bool) (y : Bool) : A :=
  match l1 && l2 && (x == y) with
  | true => .bool true x
  | false => match l2 && !y with
    | true => .bool false (c && x)
    | false => match l1 && x with
      | true => .bool false (c || y)
      | false => .bool false (cond c x y)
def mI (c : Bool) (k : IntKind) (l1 : Bool) (x : Int) (l2 : Bool) (y : Int) : A :=
  match l1 && l2 && decide (x = y) with
  | true => .int true k x
  | false => .int false k (cond c x y)
/-- x if c, else y; none where it cannot be said. nb: so many boxes are kept. -/
def mA (c : Bool) (nb : Nat) : A → A → Option A
  | .bool l1 x, .bool l2 y => some (mB c l1 x l2 y)
  | .int l1 k x, .int l2 k' y => match decide (k = k') with
    | true => some (mI c k l1 x l2 y)
    | false => none
  | .loc b o, .loc b' o' => match Nat.beq b b' && Nat.beq o o' && Nat.blt b nb with
    | true => some (.loc b o)
    | false => none
  | .tip h, .tip h' => match Nat.beq h h' with
    | true => some (.tip h)
    | false => none
  | .nilp, .nilp => some .nilp
  | .nilsl, .nilsl => some .nilsl
  | .junk, .junk => some .junk
  | .str x, .str y => some (.str (cond c x y))
  | _, _ => none
def mL (c : Bool) (nb : Nat) : List A → List A → Option (List A)
  | [], [] => some []
  | a :: l, b :: r => match mA c nb a b, mL c nb l r with
    | some x, some xs => some (x :: xs)
    | _, _ => none
  | _, _ => none
def mW (c : Bool) (nb : Nat) : W → W → Option W
  | .one a, .one b => (mA c nb a b).map .one
  | .agg l, .agg r => (mL c nb l r).map .agg
  | .junk, .junk => some .junk
  | _, _ => none
def mV (c : Bool) (nb : Nat) (named : Bool) (x y : V) : Option V :=
  match x, y with
  | .w a, .w b => match mW c nb a b with
    | some r => some (.w r)
    | none => match named with
      | true => none
      | false => some (.w .junk)
  | _, _ => some (.w .junk)
def mSlots (c : Bool) (nb named : Nat) (y : List V) : List Nat → List V → Option (List V)
  | [], x => some x
  | t :: ts, x => match nth x t, nth y t with
    | some a, some b => match mV c nb (Nat.blt t named) a b with
      | some r => mSlots c nb named y ts (setN x t r)
      | none => none
    | _, _ => none
/-- The cells of boxes that are on the list. -/
def mBoxes (c : Bool) (nb : Nat) (y : List (List A)) : List (Nat × Nat) → List (List A) → Option (List (List A))
  | [], x => some x
  | (b, o) :: r, x => match Nat.blt b nb with
    | false => mBoxes c nb y r x
    | true => match nth x b, nth y b with
      | some l, some l' => match nth l o, nth l' o with
        | some a, some a' => match mA c nb a a' with
          | some z => mBoxes c nb y r (setN x b (setN l o z))
          | none => none
        | _, _ => none
      | _, _ => none
def addN (l : List Nat) (t : Nat) : List Nat := match memN l t with
  | true => l
  | false => t :: l
def joinN (l : List Nat) : List Nat → List Nat
  | [] => l
  | t :: r => joinN (addN l t) r
def memP : List (Nat × Nat) → Nat → Nat → Bool
  | [], _, _ => false
  | (a, b) :: l, c, d => (Nat.beq a c && Nat.beq b d) || memP l c d
def addP (l : List (Nat × Nat)) (b o : Nat) : List (Nat × Nat) := match memP l b o with
  | true => l
  | false => (b, o) :: l
def joinP (l : List (Nat × Nat)) : List (Nat × Nat) → List (Nat × Nat)
  | [] => l
  | (b, o) :: r => joinP (addP l b o) r
def firstN {α : Type} : Nat → List α → List α
  | 0, _ => []
  | _ + 1, [] => []
  | n + 1, a :: l => a :: firstN n l
/-- One state for two that were reached from one state of nb boxes. -/
def mergeS (c : Bool) (nb named : Nat) (x y : St) : Option St :=
  match x.sd || y.sd with
  | true => none
  | false => match mSlots c nb named y.slots (joinN x.dirty y.dirty) x.slots with
    | none => none
    | some sl => match mBoxes c nb y.mem.boxes (joinP x.bd y.bd) (firstN nb x.mem.boxes) with
      | none => none
      | some bx => some { slots := sl, mem := { boxes := bx, stgs := x.mem.stgs }, dirty := joinN x.dirty y.dirty, bd := joinP x.bd y.bd, sd := false }

def sameK : K → K → Bool
  | .normal, .normal => true
  | .exit a, .exit b => Nat.beq a b
  | _, _ => false
/-- A fork of two trees, made one leaf where that can be done. -/
def fork (c : Bool) (nb named : Nat) (t e : RT Out) : RT Out :=
  match t, e with
  | .leaf x, .leaf y => match sameK x.k y.k with
    | true => match mergeS c nb named x.s y.s with
      | some s => .leaf ⟨x.k, s⟩
      | none => .br c t e
    | false => .br c t e
  | _, _ => .br c t e
def squash (nb named : Nat) : RT Out → RT Out
  | .leaf x => .leaf x
  | .br c t e => fork c nb named (squash nb named t) (squash nb named e)

/-! ### operations -/
/-- What an operation gives: a check (none: it goes through), a value, the memory. -/
structure Res where
  chk : Option Bool
  v : V
  m : Mem
  bd : List (Nat × Nat)
  sd : Bool

def pureR (s : St) (a : A) : Option Res := some { chk := none, v := .w (.one a), m := s.mem, bd := s.bd, sd := s.sd }
def valR (s : St) (v : V) : Option Res := some { chk := none, v := v, m := s.mem, bd := s.bd, sd := s.sd }

def cmpI (op : BinOp) (x y : Int) : Option Bool :=
  match op with
  | .eql => some (x == y)
  | .neq => some (x != y)
  | .lss => some (decide (x < y))
  | .leq => some (decide (x ≤ y))
  | .gtr => some (decide (x > y))
  | .geq => some (decide (x ≥ y))
  | _ => none
def andI (k : IntKind) (x y : Int) : Int := k.wrap ((BitVec.ofInt k.bits x) &&& (BitVec.ofInt k.bits y)).toNat
def orI (k : IntKind) (x y : Int) : Int := k.wrap ((BitVec.ofInt k.bits x) ||| (BitVec.ofInt k.bits y)).toNat
def xorI (k : IntKind) (x y : Int) : Int := k.wrap ((BitVec.ofInt k.bits x) ^^^ (BitVec.ofInt k.bits y)).toNat
def andNotI (k : IntKind) (x y : Int) : Int := k.wrap ((BitVec.ofInt k.bits x) &&& ~~~(BitVec.ofInt k.bits y)).toNat
def shlI (k : IntKind) (x y : Int) : Int := k.wrap (x * 2 ^ (min y.toNat k.bits))
def shrI (k : IntKind) (x y : Int) : Int := x.fdiv (2 ^ (min y.toNat k.bits))
def notI (k : IntKind) (x : Int) : Int := k.wrap ((BitVec.ofInt k.bits (if k.signed then -1 else k.max)) ^^^ (BitVec.ofInt k.bits x)).toNat
def bitsI (op : BinOp) (k : IntKind) (x y : Int) : Option Int :=
  match op with
  | .and => some (andI k x y)
  | .or => some (orI k x y)
  | .xor => some (xorI k x y)
  | .andNot => some (andNotI k x y)
  | _ => none
def arithI (op : BinOp) (k : IntKind) (x y : Int) : Option Int :=
  match op with
  | .add => some (k.wrap (x + y))
  | .sub => some (k.wrap (x - y))
  | .mul => some (k.wrap (x * y))
  | _ => bitsI op k x y
/-- Equality of two rows of cells of plain kinds. -/
def eqL : List A → List A → Option Bool
  | [], [] => some true
  | a :: l, b :: r => match a, b, eqL l r with
    | .int _ k x, .int _ k' y, some e => match decide (k = k') with
      | true => some ((x == y) && e)
      | false => none
    | .bool _ x, .bool _ y, some e => some ((x == y) && e)
    | _, _, _ => none
  | _, _ => none
/-- a op b; d: what the type of a is. -/
def binA (d : Option TypeDesc) (op : BinOp) (a b : A) : Option (Option Bool × A) :=
  match a, b with
  | .int l k x, .int l' k' y =>
    match op with
    | .shl => match l' with
      | true => match decide (0 ≤ y) with
        | true => some (none, .int l k (shlI k x y))
        | false => none
      | false => some (some (decide (0 ≤ y)), .int false k (shlI k x y))
    | .shr => match l' with
      | true => match decide (0 ≤ y) with
        | true => some (none, .int l k (shrI k x y))
        | false => none
      | false => some (some (decide (0 ≤ y)), .int false k (shrI k x y))
    | op => match decide (k = k') with
      | false => none
      | true => match op with
        | .quo => some (some (y != 0), .int false k (k.wrap (x.tdiv y)))
        | .rem => some (some (y != 0), .int false k (x.tmod y))
        | op => match arithI op k x y with
          | some n => some (none, .int (l && l') k n)
          | none => match cmpI op x y with
            | some e => some (none, .bool (l && l') e)
            | none => none
  | .bool l x, .bool l' y => match d, op with
    | some .bool, .eql => some (none, .bool (l && l') (x == y))
    | some .bool, .neq => some (none, .bool (l && l') (!(x == y)))
    | _, _ => none
  | .nilp, .nilp => match d, op with
    | some (.pointer _), .eql => some (none, .bool true true)
    | some (.pointer _), .neq => some (none, .bool true false)
    | _, _ => none
  | .loc _ _, .nilp | .nilp, .loc _ _ => match d, op with
    | some (.pointer _), .eql => some (none, .bool true false)
    | some (.pointer _), .neq => some (none, .bool true true)
    | _, _ => none
  | .str x, .str y => match op with
    | .eql => some (none, .bool false (x.toList == y.toList))
    | .neq => some (none, .bool false (!(x.toList == y.toList)))
    | .add => some (some (decide (((x.size + y.size : Nat) : Int) ≤ IntKind.i64.max)), .str (x ++ y))
    | _ => none
  | _, _ => none
def unA (op : UnOp) (a : A) : Option A :=
  match op, a with
  | .not, .bool l b => some (.bool l (!b))
  | .neg, .int l k n => some (.int l k (k.wrap (0 - n)))
  | .xor, .int l k n => some (.int l k (notI k n))
  | _, _ => none

/-- A type that is no struct and no array has one cell. -/
def aggT (P : Program) (t : TypeId) : Option Bool :=
  match P.underlying t with
  | some (.struct _) | some (.array _ _) => some true
  | some _ => some false
  | none => none
def sizeT (P : Program) (t : TypeId) : Option Nat := (P.info? t).map (·.size)
def zeroT (P : Program) (t : TypeId) : Option (List A) :=
  match (P.info? t).bind (·.zero) with
  | some z => (ofValue z).bind W.cells
  | none => none
/-- Of a row of cells, the part of type t at off. -/
def partT (P : Program) (t : TypeId) (l : List A) (off : Nat) : Option W :=
  match aggT P t, sizeT P t with
  | some true, some n => (takeN n (dropN off l)).map .agg
  | some false, some _ => (nth l off).map .one
  | _, _ => none

/-- The cells that can be read through a pointer. -/
def cellsAt (m : Mem) : A → Option (List A)
  | .loc b o => (nth m.boxes b).map (dropN o)
  | .fp l => some l
  | _ => none
def loadA (P : Program) (m : Mem) (t : TypeId) (p : A) : Option W :=
  match cellsAt m p with
  | some l => partT P t l 0
  | none => none
def addBD (bd : List (Nat × Nat)) (b o : Nat) : Nat → List (Nat × Nat)
  | 0 => bd
  | n + 1 => addBD (addP bd b o) b (o + 1) n
def storeA (P : Program) (s : St) (t : TypeId) (p : A) (l : List A) : Option Res :=
  match sizeT P t with
  | none => none
  | some n => match Nat.beq n (len l) with
    | false => none
    | true => match p with
      | .loc b o => match nth s.mem.boxes b with
        | none => none
        | some c => match putN c o l with
          | none => none
          | some c' => some { chk := none, v := .w .junk, m := { s.mem with boxes := setN s.mem.boxes b c' }, bd := addBD s.bd b o n, sd := s.sd }
      | _ => none
def newBox (s : St) (l : List A) : Res :=
  { chk := none, v := .w (.one (.loc (len s.mem.boxes) 0)), m := { s.mem with boxes := s.mem.boxes ++ [l] }, bd := s.bd, sd := s.sd }

def fieldOf (P : Program) (t : TypeId) (f : Nat) : Option Field :=
  match P.underlying t with
  | some (.struct fs) => fs[f]?
  | _ => none
def moveP (p : A) (n : Nat) : Option A :=
  match p with
  | .loc b o => some (.loc b (o + n))
  | .fp l => some (.fp (dropN n l))
  | _ => none
/-- One part of a value that is built. -/
def fillA (place : Nat → Option (Nat × Nat)) (cells : List A) : List (Nat × Option (List A)) → Option (List A)
  | [] => some cells
  | (i, v) :: rest => match place i, v with
    | some (off, size), some l => match Nat.beq (len l) size && Nat.blt 0 size with
      | false => none
      | true => match putN cells off l with
        | some c => fillA place c rest
        | none => none
    | _, _ => none
def sizesL (P : Program) : List Field → Option (List (Nat × Nat))
  | [] => some []
  | f :: l => match sizeT P f.type, sizesL P l with
    | some n, some r => some ((f.offset, n) :: r)
    | _, _ => none
def placesOf (P : Program) (t : TypeId) : Option (Nat → Option (Nat × Nat)) :=
  match P.underlying t with
  | some (.struct fs) => match sizesL P fs.toList with
    | some l => some (nth l)
    | none => none
  | some (.array _ elem) => match sizeT P elem with
    | some n => some (fun i => some (i * n, n))
    | none => none
  | _ => none
/-- Of some rows, the one with the number i (a Nat that is no literal), where i is in range. -/
def pickL (nb : Nat) (i : Int) (k : Nat) : List (List A) → Option (List A)
  | [] => none
  | [y] => some y
  | y :: r => match pickL nb i (k + 1) r with
    | some z => mL (i == (k : Int)) nb y z
    | none => none
def rowsOf (n : Nat) : Nat → List A → Option (List (List A))
  | 0, _ => some []
  | m + 1, l => match takeN n l with
    | none => none
    | some y => match rowsOf n m (dropN n l) with
      | some r => some (y :: r)
      | none => none
/-- x[i] of an array's value. -/
def indexA (P : Program) (s : St) (t : TypeId) (x : List A) (i : A) : Option Res :=
  match P.underlying t, i with
  | some (.array m elem), .int lit _ i => match aggT P elem, sizeT P elem with
    | some g, some n => match rowsOf n m x with
      | none => none
      | some rows => match lit with
        | true => match decide (0 ≤ i ∧ i < (m : Int)) with
          | false => none
          | true => match nth rows i.toNat with
            | none => none
            | some y => match g, y with
              | true, y => valR s (.w (.agg y))
              | false, [a] => valR s (.w (.one a))
              | _, _ => none
        | false => match pickL (len s.mem.boxes) i 0 rows with
          | none => none
          | some y => match g, y with
            | true, y => some { chk := some (decide (0 ≤ i ∧ i < (m : Int))), v := .w (.agg y), m := s.mem, bd := s.bd, sd := s.sd }
            | false, [a] => some { chk := some (decide (0 ≤ i ∧ i < (m : Int))), v := .w (.one a), m := s.mem, bd := s.bd, sd := s.sd }
            | _, _ => none
    | _, _ => none
  | _, _ => none

def opdsC (s : St) : List (Nat × Operand) → List (Nat × Option (List A))
  | [] => []
  | (i, x) :: l => (i, opdC s x) :: opdsC s l

/-- min, max of numbers. -/
def foldMin (acc : Bool × IntKind × Int) : List V → Option (Bool × IntKind × Int)
  | [] => some acc
  | .w (.one (.int l k n)) :: r => match decide (k = acc.2.1) with
    | true => foldMin (acc.1 && l, acc.2.1, if n < acc.2.2 then n else acc.2.2) r
    | false => none
  | _ => none
def foldMax (acc : Bool × IntKind × Int) : List V → Option (Bool × IntKind × Int)
  | [] => some acc
  | .w (.one (.int l k n)) :: r => match decide (k = acc.2.1) with
    | true => foldMax (acc.1 && l, acc.2.1, if n > acc.2.2 then n else acc.2.2) r
    | false => none
  | _ => none
def builtinA (s : St) (b : Builtin) (vs : List V) : Option Res :=
  match b, vs with
  | .min, .w (.one (.int l k n)) :: r => match foldMin (l, k, n) r with
    | some (l, k, n) => pureR s (.int l k n)
    | none => none
  | .max, .w (.one (.int l k n)) :: r => match foldMax (l, k, n) r with
    | some (l, k, n) => pureR s (.int l k n)
    | none => none
  | _, _ => none

/-- The cells of a value of type t in order, where they are numbers and Bools. -/
def kFields (f : TypeId → List A → Option (List A)) (cells : TypeId → Nat) (l : List A) : List Field → Option (List A)
  | [] => some []
  | fd :: r => match f fd.type (firstN (cells fd.type) (dropN fd.offset l)), kFields f cells l r with
    | some a, some b => some (a ++ b)
    | _, _ => none
def kItems (f : List A → Option (List A)) (n : Nat) (l : List A) : List Nat → Option (List A)
  | [] => some []
  | i :: r => match f (firstN n (dropN (i * n) l)), kItems f n l r with
    | some a, some b => some (a ++ b)
    | _, _ => none
def klT (P : Program) : Nat → TypeId → List A → Option (List A)
  | 0, _, _ => none
  | d + 1, t, l =>
    match P.underlying t with
    | some .bool => match l with
      | [.bool f b] => some [.bool f b]
      | _ => none
    | some (.int q) => match l with
      | [.int f q' n] => match decide (q' = q) with
        | true => some [.int f q n]
        | false => none
      | _ => none
    | some (.array n e) => match Nat.beq (len l) (P.cellsOf t) with
      | true => kItems (klT P d e) (P.cellsOf e) l (List.range n)
      | false => none
    | some (.struct fs) => match Nat.beq (len l) (P.cellsOf t) && fs.all (·.name != "_") with
      | true => kFields (klT P d) P.cellsOf l fs.toList
      | false => none
    | _ => none
/-- Are two structs or arrays equal? -/
def eqT (P : Program) (t : TypeId) (l r : List A) : Option Bool :=
  match P.keyTypeAt 12 t && !P.eqGuardType P.depth t && (aggT P t == some true) with
  | true => match klT P 12 t l, klT P 12 t r with
    | some a, some b => eqL a b
    | _, _ => none
  | false => none

def evOp (E : Env) (s : St) (o : Op) : Option Res :=
  match o with
  | .move x | .assign x => match opd s x with
    | some v => valR s v
    | none => none
  | .pick c a b => match opd1 s c with
    | some (.bool true c) => match (match c with | true => opd s a | false => opd s b) with
      | some v => valR s v
      | none => none
    | some (.bool false c) => match opd s a, opd s b with
      | some (.w x), some (.w y) => match mW c (len s.mem.boxes) x y with
        | some z => valR s (.w z)
        | none => none
      | _, _ => none
    | _ => none
  | .alloc t => (zeroT E.P t).map (newBox s)
  | .box _ x => (opdC s x).map (newBox s)
  | .build t parts => match zeroT E.P t, placesOf E.P t with
    | some z, some pl => match fillA pl z (opdsC s parts.toList) with
      | some l => valR s (.w (.agg l))
      | none => none
    | _, _ => none
  | .load t p => match opd1 s p with
    | some p => match loadA E.P s.mem t p with
      | some w => valR s (.w w)
      | none => none
    | none => none
  | .store t p x => match opd1 s p, opdC s x with
    | some p, some l => storeA E.P s t p l
    | _, _ => none
  | .nilCheck x => match opd1 s x with
    | some (.loc b o) => pureR s (.loc b o)
    | some (.fp l) => pureR s (.fp l)
    | _ => none
  | .binOp op t x y _ => match opd s x, opd s y with
    | some (.w (.one a)), some (.w (.one b)) => match binA (E.P.underlying t) op a b with
      | some (c, r) => some { chk := c, v := .w (.one r), m := s.mem, bd := s.bd, sd := s.sd }
      | none => none
    | some (.w (.agg l)), some (.w (.agg r)) => match op with
      | .eql => match eqT E.P t l r with
        | some e => pureR s (.bool false e)
        | none => none
      | .neq => match eqT E.P t l r with
        | some e => pureR s (.bool false (!e))
        | none => none
      | _ => none
    | _, _ => none
  | .unOp op _ x => match opd1 s x with
    | some a => (unA op a).bind (pureR s)
    | none => none
  | .convert src dst x => match opd1 s x, E.P.underlying src, E.P.underlying dst with
    | some (.int l _ n), some _, some (.int k) => pureR s (.int l k (k.wrap n))
    | _, _, _ => none
  | .fieldAddr t p f => match opd1 s p, fieldOf E.P t f with
    | some p, some f => match sizeT E.P f.type with
      | some (_ + 1) => (moveP p f.offset).bind (pureR s)
      | _ => none
    | _, _ => none
  | .field t x f => match opd s x, fieldOf E.P t f with
    | some (.w (.agg l)), some f => match partT E.P f.type l f.offset with
      | some w => valR s (.w w)
      | none => none
    | _, _ => none
  | .index t x i => match opd s x, opd1 s i with
    | some (.w (.agg l)), some i => indexA E.P s t l i
    | _, _ => none
  | .extract x i => match opd s x with
    | some (.tup l) => match nth l i with
      | some w => valR s (.w w)
      | none => none
    | _ => none
  | _ => none

end Go.Sx
