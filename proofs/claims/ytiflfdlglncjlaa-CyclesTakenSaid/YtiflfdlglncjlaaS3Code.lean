/-
  The symbolic executor's control: regions, forks, blocks, loops (by an oracle), calls (by their contracts or by their code), the result of a function. Conditions: none (definitions).
-/
import Derived.Test.YtiflfdlglncjlaaS3Core
set_option linter.unusedSimpArgs false
set_option linter.unusedVariables false
namespace Go.S3

def chkT (c : Option Bool) (s : St) (t : RT Out) : RT Out :=
  match c with
  | none => t
  | some b => .br b t (.leaf ⟨.stop, s⟩)
def stopT (s : St) : RT Out := .leaf ⟨.stop, s⟩

/-- The slot d gets v. -/
def put (s : St) (d : Option Nat) (v : V) : St :=
  match d with
  | none => s
  | some d => { s with slots := setN s.slots d v, dirty := setB s.dirty d }
def putRes (s : St) (d : Option Nat) (r : Res) : St :=
  put { s with mem := r.m, bd := r.bd, sd := r.sd } d r.v
/-- What a call's code has found: its lists count from the call on. -/
def callRes (s : St) (r : Res) : Res := { r with bd := joinP s.bd r.bd, sd := joinN s.sd r.sd }

def calleeOf (E : Env) (s : St) (c : Call) : Option (Entry × List V) :=
  match c.callee with
  | .value f => match opd1 s f with
    | some (.clo f caps) => match E.calls f with
      | some e => some (e, caps.map (fun a => .w (.one a)))
      | none => none
    | _ => none
  | _ => none

/-- The address of an array's element: a fork over an index that is not known. -/
def armsIdx (P : Program) (s : St) (t : TypeId) (x : A) (k : IntKind) (n : Int) : Nat → Nat → RT (Option Res)
  | 0, _ => .leaf none
  | r + 1, j => .br (n == (j : Int)) (.leaf (indexAddrA P s t x (.int true k j))) (armsIdx P s t x k n r (j + 1))
def idxT (P : Program) (s : St) (t : TypeId) (x i : A) : RT (Option Res) := match P.underlying t, i with
  | some (.array m _), .int false k n => armsIdx P s t x k n m 0
  | _, i => .leaf (indexAddrA P s t x i)
/-- One operation: what it gives. -/
def stepRes (E : Env) (s : St) (o : Oper) : RT (Option Res) :=
  match o.op with
  | .call c => match c.callee with
    | .builtin b => match opds s c.args.toList with
      | some vs => .leaf (builtinA E.P s b c.argTypes.toList vs)
      | none => .leaf none
    | _ => match calleeOf E s c, opds s c.args.toList with
      | some (.pure p, caps), some vs => match freezeVs s (vs ++ caps) with
        | some (vs, s') => match p vs with
          | some (chk, v) => .leaf (some (ofSt s' chk v))
          | none => .leaf none
        | none => .leaf none
      | some (.read g, caps), some vs => match g (vs ++ caps) s.mem with
        | some (chk, v) => .leaf (some (ofSt s chk v))
        | none => .leaf none
      | some (.tree g, caps), some vs => (g (vs ++ caps) s.mem).map fun
        | some r => some (callRes s r)
        | none => none
      | _, _ => .leaf none
  | .indexAddr t x i => match opd1 s x, opd1 s i with
    | some x, some i => idxT E.P s t x i
    | _, _ => .leaf none
  | op => .leaf (evOp E s op)
/-- What follows it: k. -/
def contT (s : St) (d : Option Nat) (k : St → RT Out) : Option Res → RT Out
  | some r => chkT r.chk s (k (putRes s d r))
  | none => stopT s
def stepT (E : Env) (s : St) (o : Oper) (k : St → RT Out) : RT Out := (stepRes E s o).bind (contT s o.dst k)

def resetD (s : St) : St := { s with dirty := 0, bd := [], sd := [] }
def backD (s : St) (o : Out) : Out := { o with s := { o.s with dirty := Nat.lor s.dirty o.s.dirty, bd := joinP s.bd o.s.bd, sd := joinN s.sd o.s.sd } }
/-- The operation number j's slot, as a Bool: known, or a fork over it. -/
def guardT (named : Nm) (ops : List Oper) (s : St) (g : Option (Nat × Bool)) (run skip : St → RT Out) : RT Out :=
  match g with
  | none => run s
  | some (j, want) => match nth ops j with
    | some o => match o.dst with
      | some d => match nth s.slots d with
        | some (.w (.one (.bool true b))) => match b == want with
          | true => run s
          | false => skip s
        | some (.w (.one (.bool false b))) =>
          match want with
          | true => (fork b (len s.mem.boxes) (len s.mem.stgs) named (run (put (resetD s) (some d) (.w (.one (.bool true true))))) (skip (put (resetD s) (some d) (.w (.one (.bool true false)))))).map (backD s)
          | false => (fork b (len s.mem.boxes) (len s.mem.stgs) named (skip (put (resetD s) (some d) (.w (.one (.bool true true))))) (run (put (resetD s) (some d) (.w (.one (.bool true false)))))).map (backD s)
        | some (.tup []) => skip s
        | _ => stopT s
      | none => stopT s
    | none => stopT s
def undefV : V := .tup []

def evOps (E : Env) (ops : List Oper) : List Oper → St → RT Out
  | [], s => .leaf ⟨.normal, s⟩
  | o :: rest, s => guardT ⟨E.named, false⟩ ops s o.guard (fun s => stepT E s o (evOps E ops rest)) (fun s => evOps E ops rest (put s o.dst undefV))

/-! ### regions that draw their order -/
/-- Operations that change memory. -/
def chgOp (E : Env) : Op → Bool
  | .alloc _ | .box .. | .store .. | .makeSlice .. => true
  | .call c => match c.callee with
    | .builtin .append => true
    | .builtin _ => false
    | .value (.func f) => match E.calls f with
      | some (.pure _) => false
      | some (.read _) => false
      | _ => true
    | _ => true
  | _ => false
/-- Calls that read memory. -/
def readOp (E : Env) : Op → Bool
  | .call c => match c.callee with
    | .value (.func f) => match E.calls f with
      | some (.read _) => true
      | _ => false
    | _ => false
  | _ => false
/-- The operations that are waited for, directly: a bit each. -/
def emL : List Edge → Nat
  | [] => 0
  | e :: l => match Region.binds .any e with
    | true => setB (emL l) e.on
    | false => emL l
def joinC : List Nat → Nat → Nat → Nat
  | [], _, _ => 0
  | c :: l, i, m => match tbit m i with
    | true => Nat.lor c (joinC l (i + 1) m)
    | false => joinC l (i + 1) m
/-- The operations that are waited for, directly or through others. -/
def closures : List Oper → List Nat → List Nat
  | [], acc => acc
  | o :: l, acc => closures l (acc ++ [Nat.lor (emL o.after.toList) (joinC acc 0 (emL o.after.toList))])
/-- Does operation j wait for operation i, directly or through others? -/
def rch (cls : List Nat) (i j : Nat) : Bool := match nth cls j with
  | some m => tbit m i
  | none => false
def looks (o : Oper) : List Nat := o.op.operands.toList.filterMap fun
  | .tmp t => some t
  | _ => none
def lmL : List Nat → Nat
  | [] => 0
  | t :: l => setB (lmL l) t
/-- The slots that an operation names, that of its guard too. -/
def lookM (ops : List Oper) (o : Oper) : Nat := match o.guard with
  | some (g, _) => match nth ops g with
    | some q => match q.dst with
      | some d => setB (lmL (looks o)) d
      | none => lmL (looks o)
    | none => lmL (looks o)
  | none => lmL (looks o)
structure OI where
  d : Option Nat
  lm : Nat
  em : Nat
def dstIn (d : Option Nat) (m : Nat) : Bool := match d with
  | some d => tbit m d
  | none => false
def dstEq (a b : Option Nat) : Bool := match a, b with
  | some a, some b => Nat.beq a b
  | _, _ => false
def apartI (a b : OI) : Bool := !dstIn a.d b.lm && !dstEq a.d b.d && !dstIn b.d a.lm
def pairsI (a : OI) (j : Nat) : List OI → Bool
  | [] => true
  | b :: l => (tbit b.em j || apartI a b) && pairsI a j l
def lexI : Nat → List OI → Bool
  | _, [] => true
  | j, a :: l => Nat.blt a.em (Nat.shiftLeft 1 j) && pairsI a j l && lexI (j + 1) l
def infoL (ops : List Oper) : List Oper → List OI
  | [] => []
  | o :: l => ⟨o.dst, lookM ops o, emL o.after.toList⟩ :: infoL ops l
/-- The text's order is one that the edges allow, and what is not bound by an edge is apart. -/
def lexL (ops : List Oper) : Bool := lexI 0 (infoL ops ops)
def maskL (ts : List Nat) : Nat → List V → List V
  | _, [] => []
  | i, v :: l => (match memN ts i with | true => v | false => .w .junk) :: maskL ts (i + 1) l
/-- Only the slots that o names. -/
def mask (s : St) (o : Oper) : St := { s with slots := maskL (looks o) 0 s.slots }
def emptyM : Mem := ⟨[], []⟩
def bareS (s : St) : St := { s with mem := emptyM }
def frozenA (m : Mem) : A → Bool
  | .tip h ver => match stgOf m h ver with
    | some g => g.ffz
    | none => false
  | .sp _ _ _ _ => false
  | _ => true
def frozenV (m : Mem) : V → Bool
  | .w (.one a) => frozenA m a
  | .w (.agg l) => l.all (frozenA m)
  | _ => true
/-- Nothing need be frozen for it. -/
def frzOp (E : Env) (s : St) : Op → Bool
  | .call c => match c.callee with
    | .builtin _ => true
    | _ => match calleeOf E s c, opds s c.args.toList with
      | some (.read _, _), some _ => true
      | some (_, caps), some vs => (vs ++ caps).all (frozenV s.mem)
      | _, _ => false
  | .slice _ x _ _ _ => match opd s x with
    | some v => frozenV s.mem v
    | none => false
  | .buildSlice _ _ parts => parts.toList.all fun p => match opd s p.2 with
    | some v => frozenV s.mem v
    | none => false
  | _ => true
/-- An operation that leaves memory alone: its check and value, as far as s tells. rd: s tells all of memory. -/
def freeRes (E : Env) (rd : Bool) (s : St) (o : Oper) : Option (Option Bool × V) :=
  match !chgOp E o.op && frzOp E s o.op && (rd || !readOp E o.op) with
  | false => none
  | true => match stepRes E s o with
    | .leaf (some r) => some (r.chk, r.v)
    | _ => none
/-- Known, or a fork over it. -/
def guardB (ops : List Oper) (s : St) (g : Option (Nat × Bool)) (run skip : St → RT Out) : RT Out :=
  match g with
  | none => run s
  | some (j, want) => match nth ops j with
    | some o => match o.dst with
      | some d => match nth s.slots d with
        | some (.w (.one (.bool true b))) => match b == want with
          | true => run s
          | false => skip s
        | some (.w (.one (.bool false b))) => match want with
          | true => .br b (run (put s (some d) (.w (.one (.bool true true))))) (skip (put s (some d) (.w (.one (.bool true false)))))
          | false => .br b (skip (put s (some d) (.w (.one (.bool true true))))) (run (put s (some d) (.w (.one (.bool true false)))))
        | some (.tup []) => skip s
        | _ => stopT s
      | none => stopT s
    | none => stopT s
def freeSt (chg : Bool) (s : St) : St := match chg with
  | true => bareS s
  | false => s
/-- The one box that o may change; none: who knows. -/
def touchOf (s : St) (o : Oper) : Option Nat := match o.op with
  | .store _ p _ => match opd1 s p with
    | some (.loc b _) => some b
    | _ => none
  | .alloc _ | .box .. => some (len s.mem.boxes)
  | _ => none
/-- The one box that o's value hangs on. -/
def noLoc : V → Bool
  | .w (.one (.loc _ _)) => false
  | _ => true
def localArgs (m : Mem) : Option (List V) → Option Nat
  | some (.w (.one (.loc b _)) :: l) => match l.all noLoc && Nat.blt b (len m.boxes) with
    | true => some b
    | false => none
  | _ => none
def localOf (E : Env) (s : St) (o : Oper) : Option Nat := match o.op with
  | .load _ p => match opd1 s p with
    | some (.loc b _) => some b
    | _ => none
  | .call c => match c.callee with
    | .value (.func f) => match E.calls f with
      | some (.read _) => localArgs s.mem (opds s c.args.toList)
      | _ => none
    | _ => none
  | _ => none
def apartB : Option Nat → Option Nat → Bool
  | some a, some b => !Nat.beq a b
  | _, _ => false
/-- The operations in their text's order; chg: some of them may change memory. Then those that change it must wait for one another, and those whose value hangs on it must lie before or behind each of these that may touch it. cs: those that have changed it; rs: those that have read it. -/
def evOpsD (E : Env) (chg : Bool) (cls : List Nat) (ops : List Oper) : List Oper → Nat → List (Nat × Option Nat) → List (Nat × Option Nat) → St → RT Out
  | [], _, _, _, s => .leaf ⟨.normal, s⟩
  | o :: rest, i, cs, rs, s => guardB ops s o.guard
    (fun s => match freeRes E (!chg) (freeSt chg (mask s o)) o with
      | some (chk, v) => chkT chk s (evOpsD E chg cls ops rest (i + 1) cs rs (put s o.dst v))
      | none => match chg with
        | true => match freeRes E true (mask s o) o with
          | some (chk, v) => match cs.all (fun q => apartB q.2 (localOf E (mask s o) o) || rch cls q.1 i) with
            | true => chkT chk s (evOpsD E chg cls ops rest (i + 1) cs ((i, localOf E (mask s o) o) :: rs) (put s o.dst v))
            | false => stopT s
          | none => match cs.all (fun q => rch cls q.1 i) && rs.all (fun q => apartB (touchOf (mask s o) o) q.2 || rch cls q.1 i) with
            | true => (stepRes E (mask s o) o).bind (contT s o.dst (evOpsD E chg cls ops rest (i + 1) ((i, touchOf (mask s o) o) :: cs) rs))
            | false => stopT s
        | false => stopT s)
    (fun s => evOpsD E chg cls ops rest (i + 1) cs rs (put s o.dst undefV))
/-- In the front of a drawn region: the tips that calls are handed are frozen. -/
def preFz (s : St) : List Oper → St
  | [] => s
  | o :: l => match o.op with
    | .call c => match c.callee with
      | .builtin _ => preFz s l
      | _ => match opds s c.args.toList with
        | some vs => match freezeVs s vs with
          | some (_, s') => preFz s' l
          | none => preFz s l
        | none => preFz s l
    | _ => preFz s l
def stopAt (s : St) (o : Out) : Out := match o.k with
  | .stop => ⟨.stop, s⟩
  | _ => o

def drawnT (E : Env) (ops : List Oper) (s : St) : RT Out :=
  (squash (len s.mem.boxes) (len s.mem.stgs) ⟨E.named, false⟩ ((evOpsD E (ops.any (fun o => chgOp E o.op)) (closures ops []) ops ops 0 [] [] (resetD s)).map (stopAt (resetD s)))).map (backD s)

def seqT (t : RT Out) (k : St → RT Out) : RT Out :=
  t.bind fun o => match o.k with
    | .normal => k o.s
    | _ => .leaf o
def unexit (id : Nat) (o : Out) : Out :=
  match o.k with
  | .exit i => match Nat.beq i id with
    | true => ⟨.normal, o.s⟩
    | false => o
  | _ => o

/-- At most n rounds of a loop. -/
def unrollT (round : St → RT Out) : Nat → St → RT Out
  | 0, s => stopT s
  | n + 1, s => seqT (round s) (unrollT round n)

def evCode (E : Env) : Code → St → RT Out
  | .skip, s => .leaf ⟨.normal, s⟩
  | .region _ ops draw, s => match draw with
    | false => (squash (len s.mem.boxes) (len s.mem.stgs) ⟨E.named, false⟩ (evOps E ops.toList ops.toList (resetD s))).map (backD s)
    | true => match lexL ops.toList && E.P.follows .mixedOrders with
      | false => stopT s
      | true => drawnT E ops.toList (preFz s ops.toList)
  | .seq a b, s => seqT (evCode E a s) (evCode E b)
  | .cond c t e, s => match opd1 s c with
    | some (.bool true b) => match b with
      | true => evCode E t s
      | false => evCode E e s
    | some (.bool false b) => (fork b (len s.mem.boxes) (len s.mem.stgs) ⟨E.named, true⟩ (evCode E t (resetD s)) (evCode E e (resetD s))).map (backD s)
    | _ => stopT s
  | .block id (.loop c), s => match E.loops id with
    | some f => f s
    | none => (squash (len s.mem.boxes) (len s.mem.stgs) ⟨E.named, true⟩ ((unrollT (evCode E c) E.fuel (resetD s)).map (unexit id))).map (backD s)
  | .block id c, s => (squash (len s.mem.boxes) (len s.mem.stgs) ⟨E.named, true⟩ ((evCode E c (resetD s)).map (unexit id))).map (backD s)
  | .exit id, s => .leaf ⟨.exit id, s⟩
  | .ret, s => .leaf ⟨.ret, s⟩
  | _, s => stopT s

/-! ### a function -/
def resultOf (P : Program) (s : St) : List ResultVar → Option (List W)
  | [] => some []
  | .tmp t :: r => match nth s.slots t, resultOf P s r with
    | some (.w x), some l => some (x :: l)
    | _, _ => none
  | .cell t ty :: r => match nth s.slots t, resultOf P s r with
    | some (.w (.one p)), some l => match loadA P s.mem ty p with
      | some x => some (x :: l)
      | none => none
    | _, _ => none
def resultV (P : Program) (fn : Func) (s : St) : Option V :=
  match resultOf P s fn.results.toList with
  | some [x] => some (.w x)
  | some l => some (.tup l)
  | none => none
def start (fn : Func) (vs : List V) (m : Mem) : St :=
  { slots := vs ++ rep undefV (fn.ntmps - len vs), mem := m, dirty := 0, bd := [], sd := [] }
/-- What the function hands back, and the memory; none where that can't be said. -/
def finish (P : Program) (fn : Func) (o : Out) : Option Res :=
  match o.k with
  | .ret | .normal => match resultV P fn o.s with
    | some v => some (ofSt o.s none v)
    | none => none
  | _ => none
def evFunc (E : Env) (fn : Func) (vs : List V) (m : Mem) : RT (Option Res) :=
  match fn.body with
  | some c => (evCode E c (start fn vs m)).map (finish E.P fn)
  | none => .leaf none

end Go.S3
