/-
  The symbolic executor's control: regions, forks, blocks, loops (by an oracle), calls (by their contracts), the result of a function. Conditions: none (definitions).
-/
import Derived.Test.YtmhebjdoodiikaaSxCore
namespace Go.Sx

def chkT (c : Option Bool) (s : St) (t : RT Out) : RT Out :=
  match c with
  | none => t
  | some b => .br b t (.leaf ⟨.stop, s⟩)
def stopT (s : St) : RT Out := .leaf ⟨.stop, s⟩

/-- The slot d gets v. -/
def put (s : St) (d : Option Nat) (v : V) : St :=
  match d with
  | none => s
  | some d => { s with slots := setN s.slots d v, dirty := addN s.dirty d }
def putRes (s : St) (d : Option Nat) (r : Res) : St :=
  put { s with mem := r.m, bd := r.bd, sd := r.sd } d r.v

def calleeOf (E : Env) (s : St) (c : Call) : Option (Entry × List V) :=
  match c.callee with
  | .value f => match opd1 s f with
    | some (.clo f caps) => match E.calls f with
      | some e => some (e, caps.map (fun a => .w (.one a)))
      | none => none
    | _ => none
  | _ => none
/-- Values that are told by the abstract ones alone. -/
def exactA : A → Bool
  | .bool _ _ | .int _ _ _ | .str _ | .nilp | .nilsl => true
  | _ => false
def exactW : W → Bool
  | .one a => exactA a
  | .agg l => l.all exactA
  | .junk => false
def exactV : V → Bool
  | .w x => exactW x
  | .tup l => l.all exactW
/-- Boxes that hold other cells; as many as before. -/
def setBoxes (bx : List (List A)) (bd : List (Nat × Nat)) : List (Nat × List A) → Option (List (List A) × List (Nat × Nat))
  | [] => some (bx, bd)
  | (b, l) :: r => match nth bx b with
    | some c => match Nat.beq (len c) (len l) with
      | true => setBoxes (setN bx b l) (addBD bd b 0 (len l)) r
      | false => none
    | none => none
def isNil {α : Type} : List α → Bool
  | [] => true
  | _ :: _ => false
def applyU (s : St) (u : Upd) : Option St :=
  match setBoxes s.mem.boxes s.bd u.boxes with
  | some (bx, bd) => some { s with mem := { boxes := bx, stgs := s.mem.stgs ++ u.news }, bd := bd, sd := s.sd || !isNil u.news }
  | none => none
/-- Operations that leave all as it is. -/
def stillOp : Op → Bool
  | .alloc _ | .box .. | .store .. => false
  | _ => true

/-- One operation; what follows it: k. q: the order is open. -/
def stepT (E : Env) (q : Bool) (s : St) (o : Oper) (k : St → RT Out) : RT Out :=
  match o.op with
  | .call c => match c.callee with
    | .builtin b => match opds s c.args.toList with
      | some vs => match builtinA s b vs with
        | some r => chkT r.chk s (k (putRes s o.dst r))
        | none => stopT s
      | none => stopT s
    | _ => match calleeOf E s c, opds s c.args.toList with
      | some (.pure p, caps), some vs => match p (vs ++ caps) with
        | some (chk, v) => match q && !exactV v with
          | true => stopT s
          | false => chkT chk s (k (put s o.dst v))
        | none => stopT s
      | some (.mem g, caps), some vs => match q with
        | true => stopT s
        | false => match g (vs ++ caps) s.mem with
          | some (chk, v, u) => match applyU s u with
            | some s' => chkT chk s (k (put s' o.dst v))
            | none => stopT s
          | none => stopT s
      | _, _ => stopT s
  | op => match q && !stillOp op with
    | true => stopT s
    | false => match evOp E s op with
      | some r => chkT r.chk s (k (putRes s o.dst r))
      | none => stopT s

/-- The operation number j's slot, as a Bool: known, or a fork over it. -/
def guardT (ops : List Oper) (s : St) (g : Option (Nat × Bool)) (run skip : St → RT Out) : RT Out :=
  match g with
  | none => run s
  | some (j, want) => match nth ops j with
    | some o => match o.dst with
      | some d => match nth s.slots d with
        | some (.w (.one (.bool true b))) => match b == want with
          | true => run s
          | false => skip s
        | some (.w (.one (.bool false b))) =>
          let st := put s (some d) (.w (.one (.bool true true)))
          let sf := put s (some d) (.w (.one (.bool true false)))
          match want with
          | true => .br b (run st) (skip sf)
          | false => .br b (skip st) (run sf)
        | some (.tup []) => skip s
        | _ => stopT s
      | none => stopT s
    | none => stopT s
def undefV : V := .tup []

def evOps (E : Env) (q : Bool) (ops : List Oper) : List Oper → St → RT Out
  | [], s => .leaf ⟨.normal, s⟩
  | o :: rest, s => guardT ops s o.guard (fun s => stepT E q s o (evOps E q ops rest)) (fun s => evOps E q ops rest (put s o.dst undefV))

def resetD (s : St) : St := { s with dirty := [], bd := [], sd := false }
def backD (s : St) (o : Out) : Out := { o with s := { o.s with dirty := joinN s.dirty o.s.dirty, bd := joinP s.bd o.s.bd, sd := s.sd || o.s.sd } }

def seqT (t : RT Out) (k : St → RT Out) : RT Out :=
  t.bind fun o => match o.k with
    | .normal => k o.s
    | _ => .leaf o
def unexit (id : Nat) (o : Out) : Out :=
  match o.k with
  | .exit i => match Nat.beq i id with
    | true => ⟨.normal, o.s⟩
    | false => o
  | _ => o

/-- At most n rounds of a loop. -/
def unrollT (round : St → RT Out) : Nat → St → RT Out
  | 0, s => stopT s
  | n + 1, s => seqT (round s) (unrollT round n)

def evCode (E : Env) : Code → St → RT Out
  | .skip, s => .leaf ⟨.normal, s⟩
  | .region _ ops draw, s => match draw && !(Region.lexB .any ops && E.P.follows .mixedOrders) with
    | true => stopT s
    | false => (squash (len s.mem.boxes) E.named (evOps E draw ops.toList ops.toList (resetD s))).map (backD s)
  | .seq a b, s => seqT (evCode E a s) (evCode E b)
  | .cond c t e, s => match opd1 s c with
    | some (.bool true b) => match b with
      | true => evCode E t s
      | false => evCode E e s
    | some (.bool false b) => (fork b (len s.mem.boxes) E.named (evCode E t (resetD s)) (evCode E e (resetD s))).map (backD s)
    | _ => stopT s
  | .block id (.loop c), s => match E.loops id with
    | some f => f s
    | none => (squash (len s.mem.boxes) E.named ((unrollT (evCode E c) E.fuel (resetD s)).map (unexit id))).map (backD s)
  | .block id c, s => (squash (len s.mem.boxes) E.named ((evCode E c (resetD s)).map (unexit id))).map (backD s)
  | .exit id, s => .leaf ⟨.exit id, s⟩
  | .ret, s => .leaf ⟨.ret, s⟩
  | _, s => stopT s

/-! ### a function -/
def resultOf (P : Program) (s : St) : List ResultVar → Option (List W)
  | [] => some []
  | .tmp t :: r => match nth s.slots t, resultOf P s r with
    | some (.w x), some l => some (x :: l)
    | _, _ => none
  | .cell t ty :: r => match nth s.slots t, resultOf P s r with
    | some (.w (.one p)), some l => match loadA P s.mem ty p with
      | some x => some (x :: l)
      | none => none
    | _, _ => none
def resultV (P : Program) (fn : Func) (s : St) : Option V :=
  match resultOf P s fn.results.toList with
  | some [x] => some (.w x)
  | some l => some (.tup l)
  | none => none
def rep {α : Type} (x : α) : Nat → List α
  | 0 => []
  | n + 1 => x :: rep x n
def start (fn : Func) (vs : List V) (m : Mem) : St :=
  { slots := vs ++ rep undefV (fn.ntmps - len vs), mem := m, dirty := [], bd := [], sd := false }
/-- What the function hands back, and the memory; none where that can't be said. -/
def finish (P : Program) (fn : Func) (o : Out) : Option (V × Mem) :=
  match o.k with
  | .ret | .normal => match resultV P fn o.s with
    | some v => some (v, o.s.mem)
    | none => none
  | _ => none
def evFunc (E : Env) (fn : Func) (vs : List V) (m : Mem) : RT (Option (V × Mem)) :=
  match fn.body with
  | some c => (evCode E c (start fn vs m)).map (finish E.P fn)
  | none => .leaf none

end Go.Sx
