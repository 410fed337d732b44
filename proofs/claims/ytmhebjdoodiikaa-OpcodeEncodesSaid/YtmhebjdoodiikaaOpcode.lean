/-
  Contracts of the functions that the opcode laws reach; each found by the symbolic executor and checked by the kernel. Conditions: none.
-/
import Derived.Test.YtmhebjdoodiikaaSxLoop
import Derived.Test.YtmhebjdoodiikaaProg
set_option linter.unusedVariables false
set_option linter.unusedSimpArgs false
namespace Go.Proofs.Ytmhebjdoodiikaa
open Go.Sx
noncomputable section
abbrev i64 : WC Int := WC.int .i64
abbrev u8 : WC Int := WC.int .u8
abbrev boo : WC Bool := WC.bool
structure Instr where
  (Kind Length Dst Src Pair Op Cond N : Int)
  deriving DecidableEq
abbrev pi : PC Int := PC.int .i64
def pcInstr : PC Instr := PC.iso (PC.pair pi (PC.pair pi (PC.pair pi (PC.pair pi (PC.pair pi (PC.pair pi (PC.pair pi pi)))))))
  (fun a => ⟨a.1, a.2.1, a.2.2.1, a.2.2.2.1, a.2.2.2.2.1, a.2.2.2.2.2.1, a.2.2.2.2.2.2.1, a.2.2.2.2.2.2.2⟩) (fun s => (s.Kind, s.Length, s.Dst, s.Src, s.Pair, s.Op, s.Cond, s.N)) (fun _ => rfl)
abbrev cInstr : WC Instr := WC.agg pcInstr
def noInstr : Instr := ⟨0, 0, 0, 0, 0, 0, 0, 0⟩
theorem getD_of {o : Option Instr} (h : o.isSome = true) : o = some (o.getD noInstr) := by cases o <;> simp at h ⊢
theorem of_pre {b : Bool} (h : some b ≠ some false) : b = true := by cases b <;> simp at h ⊢
theorem byte_all (P : Int → Prop) [∀ n, Decidable (P n)] (h : ∀ n : Fin 256, P ((n.val : Nat) : Int)) : ∀ op, inR .u8 op → P op := by
  intro op hop
  simp [inR, IntKind.min, IntKind.max, IntKind.signed, IntKind.bits] at hop
  have := h ⟨op.toNat, by omega⟩
  have e : ((op.toNat : Nat) : Int) = op := by omega
  simp only [e] at this
  exact this

def placeT (x : Int) (n : Int) : RT (Option (Int)) :=
  .br (IntKind.wrap IntKind.u64 n != 0)
  (.leaf (some ( (IntKind.wrap IntKind.i64 (Int.tmod (IntKind.wrap IntKind.u64 x) (IntKind.wrap IntKind.u64 n))))))
  (.leaf none)
def placeF (x n : Int) : Int := ((placeT x n).val).getD 0
def placeE : Entry := pureE (AC.cons i64 (AC.one i64)) (RC.one i64) (fun a => some (decide (0 < a.2))) (fun ⟨x, n⟩ => placeF x n)
theorem place_ok : EntryOk Try.prog 12 placeE :=
  pureE_part0 3 (l := []) trivial Try.func12 rfl Try.call12 (t := fun ⟨x, n⟩ => placeT x n) (fun ⟨x, n⟩ => by kernel_rfl)
    (fun a hi hp => by
      obtain ⟨x, n⟩ := a
      have hp : 0 < n := by simpa using hp
      obtain ⟨_, hn⟩ := hi
      have hn : inR .i64 n := hn
      have h1 : IntKind.wrap IntKind.u64 n = n := by
        simp [inR, IntKind.min, IntKind.max, IntKind.signed, IntKind.bits] at hn
        simp [IntKind.wrap, IntKind.signed, IntKind.bits]; omega
      have h2 : (IntKind.wrap IntKind.u64 n != 0) = true := by rw [h1]; simp; omega
      show (placeT x n).val = some ((placeT x n).val.getD 0)
      simp only [placeT, RT.val, h2, cond_true, Option.getD_some])

def laterT (op : Int) : RT (Instr × Bool) :=
  .br (op == 8)
  (.leaf ((fun a b c d e f g h i => (⟨a,b,c,d,e,f,g,h⟩, i)) (40) (1) (0) (0) (0) (0) (0) (0) (true)))
  (.br (op == 16)
   (.leaf ((fun a b c d e f g h i => (⟨a,b,c,d,e,f,g,h⟩, i)) (41) (1) (0) (0) (0) (0) (0) (0) (true)))
   (.br (op == 24)
    (.leaf ((fun a b c d e f g h i => (⟨a,b,c,d,e,f,g,h⟩, i)) (42) (1) (0) (0) (0) (0) (0) (0) (true)))
    (.br (op == 32)
     (.leaf ((fun a b c d e f g h i => (⟨a,b,c,d,e,f,g,h⟩, i)) (38) (1) (0) (0) (0) (0) (0) (0) (true)))
     (.br (op == 40)
      (.leaf ((fun a b c d e f g h i => (⟨a,b,c,d,e,f,g,h⟩, i)) (43) (2) (0) (0) (0) (0) (0) (0) (true)))
      (.br (op == 48)
       (.leaf ((fun a b c d e f g h i => (⟨a,b,c,d,e,f,g,h⟩, i)) (39) (1) (0) (0) (0) (0) (0) (0) (true)))
       (.br (op == 56)
        (.leaf ((fun a b c d e f g h i => (⟨a,b,c,d,e,f,g,h⟩, i)) (44) (2) (0) (0) (0) (0) (0) (0) (true)))
        (.br (op == 203)
         (.leaf ((fun a b c d e f g h i => (⟨a,b,c,d,e,f,g,h⟩, i)) (45) (1) (0) (0) (0) (0) (10) (0) (true)))
         (.br (op == 217)
          (.leaf ((fun a b c d e f g h i => (⟨a,b,c,d,e,f,g,h⟩, i)) (46) (1) (0) (0) (0) (0) (0) (0) (true)))
          (.br (op == 221)
           (.leaf ((fun a b c d e f g h i => (⟨a,b,c,d,e,f,g,h⟩, i)) (24) (3) (0) (0) (0) (0) (8) (0) (true)))
           (.br (op == 237)
            (.leaf ((fun a b c d e f g h i => (⟨a,b,c,d,e,f,g,h⟩, i)) (47) (1) (0) (0) (0) (0) (0) (0) (true)))
            (.br (op == 253)
             (.leaf ((fun a b c d e f g h i => (⟨a,b,c,d,e,f,g,h⟩, i)) (24) (3) (0) (0) (0) (0) (9) (0) (true)))
             (.leaf ((fun a b c d e f g h i => (⟨a,b,c,d,e,f,g,h⟩, i)) (0) (0) (0) (0) (0) (0) (0) (0) (false))))))))))))))
def later (op : Int) : Instr × Bool := (laterT op).val
def laterE : Entry := pureE (AC.one u8) (RC.two cInstr boo) (fun _ => none) (fun op => later op)
theorem later_ok : EntryOk Try.prog 27 laterE :=
  pureE_tree0 3 (l := []) trivial Try.func27 rfl Try.call27 (fun op => by kernel_rfl)

def earlierT (op : Int) : RT (Instr × Bool) :=
  .br (bif op == 0 then op == 0
else
  bif op == 8 then op == 8 else bif op == 16 then op == 16 else bif op == 24 then op == 24 else bif op == 32 then op == 32 else bif op == 40 then op == 40 else bif op == 48 then op == 48 else op == 56)
  (.leaf ((fun a b c d e f g h i => (⟨a,b,c,d,e,f,g,h⟩, i)) (1) (1) (0) (0) (0) (0) (0) (0) (true)))
  (.br (bif op == 195 then op == 195 else op == 203)
   (.leaf ((fun a b c d e f g h i => (⟨a,b,c,d,e,f,g,h⟩, i)) (24) (3) (0) (0) (0) (0) (11) (0) (true)))
   (.br (bif op == 201 then op == 201 else op == 217)
    (.leaf ((fun a b c d e f g h i => (⟨a,b,c,d,e,f,g,h⟩, i)) (26) (1) (0) (0) (0) (0) (11) (0) (true)))
    (.br (bif op == 205 then op == 205 else bif op == 221 then op == 221 else bif op == 237 then op == 237 else op == 253)
     (.leaf ((fun a b c d e f g h i => (⟨a,b,c,d,e,f,g,h⟩, i)) (25) (3) (0) (0) (0) (0) (11) (0) (true)))
     (.leaf ((fun a b c d e f g h i => (⟨a,b,c,d,e,f,g,h⟩, i)) (0) (0) (0) (0) (0) (0) (0) (0) (false))))))
def earlier (op : Int) : Instr × Bool := (earlierT op).val
def earlierE : Entry := pureE (AC.one u8) (RC.two cInstr boo) (fun _ => none) (fun op => earlier op)
theorem earlier_ok : EntryOk Try.prog 28 earlierE :=
  pureE_tree0 3 (l := []) trivial Try.func28 rfl Try.call28 (fun op => by kernel_rfl)

def specialT (op : Int) : RT (Instr × Bool) :=
  .br (op == 8)
  (.leaf ((fun a b c d e f g h i => (⟨a,b,c,d,e,f,g,h⟩, i)) (40) (1) (0) (0) (0) (0) (0) (0) (true)))
  (.br (op == 16)
   (.leaf ((fun a b c d e f g h i => (⟨a,b,c,d,e,f,g,h⟩, i)) (41) (1) (0) (0) (0) (0) (0) (0) (true)))
   (.br (op == 24)
    (.leaf ((fun a b c d e f g h i => (⟨a,b,c,d,e,f,g,h⟩, i)) (42) (1) (0) (0) (0) (0) (0) (0) (true)))
    (.br (op == 32)
     (.leaf ((fun a b c d e f g h i => (⟨a,b,c,d,e,f,g,h⟩, i)) (38) (1) (0) (0) (0) (0) (0) (0) (true)))
     (.br (op == 40)
      (.leaf ((fun a b c d e f g h i => (⟨a,b,c,d,e,f,g,h⟩, i)) (43) (2) (0) (0) (0) (0) (0) (0) (true)))
      (.br (op == 48)
       (.leaf ((fun a b c d e f g h i => (⟨a,b,c,d,e,f,g,h⟩, i)) (39) (1) (0) (0) (0) (0) (0) (0) (true)))
       (.br (op == 56)
        (.leaf ((fun a b c d e f g h i => (⟨a,b,c,d,e,f,g,h⟩, i)) (44) (2) (0) (0) (0) (0) (0) (0) (true)))
        (.br (op == 203)
         (.leaf ((fun a b c d e f g h i => (⟨a,b,c,d,e,f,g,h⟩, i)) (45) (1) (0) (0) (0) (0) (10) (0) (true)))
         (.br (op == 217)
          (.leaf ((fun a b c d e f g h i => (⟨a,b,c,d,e,f,g,h⟩, i)) (46) (1) (0) (0) (0) (0) (0) (0) (true)))
          (.br (op == 221)
           (.leaf ((fun a b c d e f g h i => (⟨a,b,c,d,e,f,g,h⟩, i)) (24) (3) (0) (0) (0) (0) (8) (0) (true)))
           (.br (op == 237)
            (.leaf ((fun a b c d e f g h i => (⟨a,b,c,d,e,f,g,h⟩, i)) (47) (1) (0) (0) (0) (0) (0) (0) (true)))
            (.br (op == 253)
             (.leaf ((fun a b c d e f g h i => (⟨a,b,c,d,e,f,g,h⟩, i)) (24) (3) (0) (0) (0) (0) (9) (0) (true)))
             (.leaf ((fun a b c d e f g h i => (⟨a,b,c,d,e,f,g,h⟩, i)) (0) (0) (0) (0) (0) (0) (0) (0) (false))))))))))))))
def special (op : Int) : Instr × Bool := (specialT op).val
def specialE : Entry := pureE (AC.one u8) (RC.two cInstr boo) (fun _ => none) (fun op => special op)
theorem special_ok : EntryOk Try.prog 31 specialE :=
  pureE_tree0 3 (l := []) trivial Try.func31 rfl Try.call31 (fun op => by kernel_rfl)

def on8085T (chip : Int) : RT (Bool) :=
  .leaf ( (chip == 2))
def on8085 (chip : Int) : Bool := (on8085T chip).val
def on8085E : Entry := pureE (AC.one i64) (RC.one boo) (fun _ => none) (fun chip => on8085 chip)
theorem on8085_ok : EntryOk Try.prog 32 on8085E :=
  pureE_tree0 2 (l := []) trivial Try.func32 rfl Try.call32 (fun chip => by kernel_rfl)

def lowT (op : Int) : RT (Option (Instr)) :=
  .br (andI IntKind.u8 op 7 == 1)
  (.br (andI IntKind.u8 op 8 != 0)
   (.leaf (some (Instr.mk (18) (1) (0) (0) (IntKind.wrap IntKind.i64 (andI IntKind.u8 (shrI IntKind.u8 op 4) 3)) (0) (0) (0))))
   (.leaf (some (Instr.mk (4) (3) (0) (0) (IntKind.wrap IntKind.i64 (andI IntKind.u8 (shrI IntKind.u8 op 4) 3)) (0) (0) (0)))))
  (.br (andI IntKind.u8 op 7 == 2)
   (.br (decide (IntKind.wrap IntKind.i64 (andI IntKind.u8 (shrI IntKind.u8 op 3) 7) < 4) && andI IntKind.u8 op 8 != 0)
    (.leaf (some (Instr.mk (9) (1) (0) (0) (IntKind.wrap IntKind.i64 (andI IntKind.u8 (shrI IntKind.u8 op 4) 3)) (0) (0) (0))))
    (.br (decide (IntKind.wrap IntKind.i64 (andI IntKind.u8 (shrI IntKind.u8 op 3) 7) < 4))
     (.leaf (some (Instr.mk (10) (1) (0) (0) (IntKind.wrap IntKind.i64 (andI IntKind.u8 (shrI IntKind.u8 op 4) 3)) (0) (0) (0))))
     (.br (decide
  (0 ≤ IntKind.wrap IntKind.i64 (IntKind.wrap IntKind.i64 (andI IntKind.u8 (shrI IntKind.u8 op 3) 7) - 4) ∧
    IntKind.wrap IntKind.i64 (IntKind.wrap IntKind.i64 (andI IntKind.u8 (shrI IntKind.u8 op 3) 7) - 4) < 4))
      (.leaf (some (Instr.mk (bif IntKind.wrap IntKind.i64 (IntKind.wrap IntKind.i64 (andI IntKind.u8 (shrI IntKind.u8 op 3) 7) - 4) == 0 then 8
else
  bif IntKind.wrap IntKind.i64 (IntKind.wrap IntKind.i64 (andI IntKind.u8 (shrI IntKind.u8 op 3) 7) - 4) == ↑(0 + 1) then 7
  else bif IntKind.wrap IntKind.i64 (IntKind.wrap IntKind.i64 (andI IntKind.u8 (shrI IntKind.u8 op 3) 7) - 4) == ↑(0 + 1 + 1) then 6 else 5) (3) (0) (0) (0) (0) (0) (0))))
      (.leaf none))))
   (.br (andI IntKind.u8 op 7 == 3)
    (.br (andI IntKind.u8 op 8 != 0)
     (.leaf (some (Instr.mk (17) (1) (0) (0) (IntKind.wrap IntKind.i64 (andI IntKind.u8 (shrI IntKind.u8 op 4) 3)) (0) (0) (0))))
     (.leaf (some (Instr.mk (16) (1) (0) (0) (IntKind.wrap IntKind.i64 (andI IntKind.u8 (shrI IntKind.u8 op 4) 3)) (0) (0) (0)))))
    (.br (andI IntKind.u8 op 7 == 4)
     (.leaf (some (Instr.mk (14) (1) (IntKind.wrap IntKind.i64 (andI IntKind.u8 (shrI IntKind.u8 op 3) 7)) (0) (0) (0) (0) (0))))
     (.br (andI IntKind.u8 op 7 == 5)
      (.leaf (some (Instr.mk (15) (1) (IntKind.wrap IntKind.i64 (andI IntKind.u8 (shrI IntKind.u8 op 3) 7)) (0) (0) (0) (0) (0))))
      (.br (andI IntKind.u8 op 7 == 6)
       (.leaf (some (Instr.mk (3) (2) (IntKind.wrap IntKind.i64 (andI IntKind.u8 (shrI IntKind.u8 op 3) 7)) (0) (0) (0) (0) (0))))
       (.br (decide (IntKind.wrap IntKind.i64 (andI IntKind.u8 (shrI IntKind.u8 op 3) 7) < 4))
        (.leaf (some (Instr.mk (23) (1) (0) (0) (0) (IntKind.wrap IntKind.i64 (andI IntKind.u8 (shrI IntKind.u8 op 3) 7)) (0) (0))))
        (.br (decide
  (0 ≤ IntKind.wrap IntKind.i64 (IntKind.wrap IntKind.i64 (andI IntKind.u8 (shrI IntKind.u8 op 3) 7) - 4) ∧
    IntKind.wrap IntKind.i64 (IntKind.wrap IntKind.i64 (andI IntKind.u8 (shrI IntKind.u8 op 3) 7) - 4) < 4))
         (.leaf (some (Instr.mk (bif IntKind.wrap IntKind.i64 (IntKind.wrap IntKind.i64 (andI IntKind.u8 (shrI IntKind.u8 op 3) 7) - 4) == 0 then 19
else
  bif IntKind.wrap IntKind.i64 (IntKind.wrap IntKind.i64 (andI IntKind.u8 (shrI IntKind.u8 op 3) 7) - 4) == ↑(0 + 1) then 20
  else bif IntKind.wrap IntKind.i64 (IntKind.wrap IntKind.i64 (andI IntKind.u8 (shrI IntKind.u8 op 3) 7) - 4) == ↑(0 + 1 + 1) then 21 else 22) (1) (0) (0) (0) (0) (0) (0))))
         (.leaf none))))))))
def lowF (op : Int) : Instr := (lowT op).val.getD noInstr
def lowE : Entry := pureE (AC.one u8) (RC.one cInstr) (fun _ => none) (fun op => lowF op)
theorem low_ok : EntryOk Try.prog 29 lowE :=
  pureE_part0 5 (l := []) trivial Try.func29 rfl Try.call29 (t := fun op => lowT op) (fun op => by kernel_rfl)
    (fun op hi _ => byte_all (fun op => (lowT op).val = some (lowF op)) (by decide +kernel) op hi)

def highT (op : Int) : RT (Option (Instr)) :=
  .br (andI IntKind.u8 op 7 == 0)
  (.leaf (some (Instr.mk (26) (1) (0) (0) (0) (0) (IntKind.wrap IntKind.i64 (andI IntKind.u8 (shrI IntKind.u8 op 3) 7)) (0))))
  (.br (andI IntKind.u8 op 7 == 1)
   (.br (!andI IntKind.u8 op 8 != 0)
    (.leaf (some (Instr.mk (31) (1) (0) (0) (IntKind.wrap IntKind.i64 (andI IntKind.u8 (shrI IntKind.u8 op 4) 3)) (0) (0) (0))))
    (.br (IntKind.wrap IntKind.i64 (andI IntKind.u8 (shrI IntKind.u8 op 3) 7) == 5)
     (.leaf (some (Instr.mk (28) (1) (0) (0) (0) (0) (0) (0))))
     (.leaf (some (Instr.mk (29) (1) (0) (0) (0) (0) (0) (0))))))
   (.br (andI IntKind.u8 op 7 == 2)
    (.leaf (some (Instr.mk (24) (3) (0) (0) (0) (0) (IntKind.wrap IntKind.i64 (andI IntKind.u8 (shrI IntKind.u8 op 3) 7)) (0))))
    (.br (andI IntKind.u8 op 7 == 3)
     (.br (decide (IntKind.wrap IntKind.i64 (andI IntKind.u8 (shrI IntKind.u8 op 3) 7) < 4))
      (.br (decide
  (0 ≤ IntKind.wrap IntKind.i64 (IntKind.wrap IntKind.i64 (andI IntKind.u8 (shrI IntKind.u8 op 3) 7) - 2) ∧
    IntKind.wrap IntKind.i64 (IntKind.wrap IntKind.i64 (andI IntKind.u8 (shrI IntKind.u8 op 3) 7) - 2) < 2))
       (.leaf (some (Instr.mk (bif IntKind.wrap IntKind.i64 (IntKind.wrap IntKind.i64 (andI IntKind.u8 (shrI IntKind.u8 op 3) 7) - 2) == 0 then 34 else 33) (2) (0) (0) (0) (0) (0) (0))))
       (.leaf none))
      (.br (decide
  (0 ≤ IntKind.wrap IntKind.i64 (IntKind.wrap IntKind.i64 (andI IntKind.u8 (shrI IntKind.u8 op 3) 7) - 4) ∧
    IntKind.wrap IntKind.i64 (IntKind.wrap IntKind.i64 (andI IntKind.u8 (shrI IntKind.u8 op 3) 7) - 4) < 4))
       (.leaf (some (Instr.mk (bif IntKind.wrap IntKind.i64 (IntKind.wrap IntKind.i64 (andI IntKind.u8 (shrI IntKind.u8 op 3) 7) - 4) == 0 then 32
else
  bif IntKind.wrap IntKind.i64 (IntKind.wrap IntKind.i64 (andI IntKind.u8 (shrI IntKind.u8 op 3) 7) - 4) == ↑(0 + 1) then 11
  else bif IntKind.wrap IntKind.i64 (IntKind.wrap IntKind.i64 (andI IntKind.u8 (shrI IntKind.u8 op 3) 7) - 4) == ↑(0 + 1 + 1) then 36 else 35) (1) (0) (0) (0) (0) (0) (0))))
       (.leaf none)))
     (.br (andI IntKind.u8 op 7 == 4)
      (.leaf (some (Instr.mk (25) (3) (0) (0) (0) (0) (IntKind.wrap IntKind.i64 (andI IntKind.u8 (shrI IntKind.u8 op 3) 7)) (0))))
      (.br (andI IntKind.u8 op 7 == 5)
       (.leaf (some (Instr.mk (30) (1) (0) (0) (IntKind.wrap IntKind.i64 (andI IntKind.u8 (shrI IntKind.u8 op 4) 3)) (0) (0) (0))))
       (.br (andI IntKind.u8 op 7 == 6)
        (.leaf (some (Instr.mk (13) (2) (0) (0) (0) (IntKind.wrap IntKind.i64 (andI IntKind.u8 (shrI IntKind.u8 op 3) 7)) (0) (0))))
        (.leaf (some (Instr.mk (27) (1) (0) (0) (0) (0) (0) (IntKind.wrap IntKind.i64 (andI IntKind.u8 (shrI IntKind.u8 op 3) 7)))))))))))
def highF (op : Int) : Instr := (highT op).val.getD noInstr
def highP (op : Int) : Bool := (highT op).val.isSome
def highE : Entry := pureE (AC.one u8) (RC.one cInstr) (fun op => some (highP op)) (fun op => highF op)
theorem high_ok : EntryOk Try.prog 30 highE :=
  pureE_part0 5 (l := []) trivial Try.func30 rfl Try.call30 (t := fun op => highT op) (fun op => by kernel_rfl)
    (fun op _ hp => getD_of (of_pre hp))

def rlowT (y : Int) (z : Int) (p : Int) (q : Int) : RT (Option (Instr)) :=
  .br (z == 0)
  (.leaf (some (Instr.mk (1) (1) (0) (0) (0) (0) (0) (0))))
  (.br (z == 1)
   (.br (q == 0)
    (.leaf (some (Instr.mk (4) (3) (0) (0) (p) (0) (0) (0))))
    (.leaf (some (Instr.mk (18) (1) (0) (0) (p) (0) (0) (0)))))
   (.br (z == 2)
    (.br (bif y == 0 then y == 0 else y == 2)
     (.leaf (some (Instr.mk (10) (1) (0) (0) (p) (0) (0) (0))))
     (.br (bif y == 1 then y == 1 else y == 3)
      (.leaf (some (Instr.mk (9) (1) (0) (0) (p) (0) (0) (0))))
      (.br (decide (0 ≤ IntKind.wrap IntKind.i64 (y - 4) ∧ IntKind.wrap IntKind.i64 (y - 4) < 4))
       (.leaf (some (Instr.mk (bif IntKind.wrap IntKind.i64 (y - 4) == 0 then 8 else bif IntKind.wrap IntKind.i64 (y - 4) == ↑(0 + 1) then 7 else bif IntKind.wrap IntKind.i64 (y - 4) == ↑(0 + 1 + 1) then 6 else 5) (3) (0) (0) (0) (0) (0) (0))))
       (.leaf none))))
    (.br (z == 3)
     (.br (decide (0 ≤ q ∧ q < 2))
      (.leaf (some (Instr.mk (bif q == 0 then 16 else 17) (1) (0) (0) (p) (0) (0) (0))))
      (.leaf none))
     (.br (z == 4)
      (.leaf (some (Instr.mk (14) (1) (y) (0) (0) (0) (0) (0))))
      (.br (z == 5)
       (.leaf (some (Instr.mk (15) (1) (y) (0) (0) (0) (0) (0))))
       (.br (z == 6)
        (.leaf (some (Instr.mk (3) (2) (y) (0) (0) (0) (0) (0))))
        (.br (decide (y < 4))
         (.leaf (some (Instr.mk (23) (1) (0) (0) (0) (y) (0) (0))))
         (.br (decide (0 ≤ IntKind.wrap IntKind.i64 (y - 4) ∧ IntKind.wrap IntKind.i64 (y - 4) < 4))
          (.leaf (some (Instr.mk (bif IntKind.wrap IntKind.i64 (y - 4) == 0 then 19 else bif IntKind.wrap IntKind.i64 (y - 4) == ↑(0 + 1) then 20 else bif IntKind.wrap IntKind.i64 (y - 4) == ↑(0 + 1 + 1) then 21 else 22) (1) (0) (0) (0) (0) (0) (0))))
          (.leaf none)))))))))
def rlowF (y z p q : Int) : Instr := (rlowT y z p q).val.getD noInstr
def rlowP (y z p q : Int) : Bool := (rlowT y z p q).val.isSome
def rlowE : Entry := pureE (AC.cons i64 (AC.cons i64 (AC.cons i64 (AC.one i64)))) (RC.one cInstr) (fun a => some (rlowP a.1 a.2.1 a.2.2.1 a.2.2.2)) (fun ⟨y, z, p, q⟩ => rlowF y z p q)
theorem rlow_ok : EntryOk Try.prog 33 rlowE :=
  pureE_part0 5 (l := []) trivial Try.func33 rfl Try.call33 (t := fun ⟨y, z, p, q⟩ => rlowT y z p q) (fun ⟨y, z, p, q⟩ => by kernel_rfl)
    (fun a _ hp => getD_of (of_pre hp))

def rhighT (y : Int) (z : Int) (p : Int) (q : Int) : RT (Option (Instr)) :=
  .br (z == 0)
  (.leaf (some (Instr.mk (26) (1) (0) (0) (0) (0) (y) (0))))
  (.br (z == 1)
   (.br (q == 0)
    (.leaf (some (Instr.mk (31) (1) (0) (0) (p) (0) (0) (0))))
    (.br (y == 5)
     (.leaf (some (Instr.mk (28) (1) (0) (0) (0) (0) (0) (0))))
     (.br (y == 7)
      (.leaf (some (Instr.mk (29) (1) (0) (0) (0) (0) (0) (0))))
      (.leaf (some (Instr.mk (26) (1) (0) (0) (0) (0) (11) (0)))))))
   (.br (z == 2)
    (.leaf (some (Instr.mk (24) (3) (0) (0) (0) (0) (y) (0))))
    (.br (z == 3)
     (.br (bif y == 0 then y == 0 else y == 1)
      (.leaf (some (Instr.mk (24) (3) (0) (0) (0) (0) (11) (0))))
      (.br (y == 2)
       (.leaf (some (Instr.mk (34) (2) (0) (0) (0) (0) (0) (0))))
       (.br (y == 3)
        (.leaf (some (Instr.mk (33) (2) (0) (0) (0) (0) (0) (0))))
        (.br (decide (0 ≤ IntKind.wrap IntKind.i64 (y - 4) ∧ IntKind.wrap IntKind.i64 (y - 4) < 4))
         (.leaf (some (Instr.mk (bif IntKind.wrap IntKind.i64 (y - 4) == 0 then 32 else bif IntKind.wrap IntKind.i64 (y - 4) == ↑(0 + 1) then 11 else bif IntKind.wrap IntKind.i64 (y - 4) == ↑(0 + 1 + 1) then 36 else 35) (1) (0) (0) (0) (0) (0) (0))))
         (.leaf none)))))
     (.br (z == 4)
      (.leaf (some (Instr.mk (25) (3) (0) (0) (0) (0) (y) (0))))
      (.br (z == 5)
       (.br (q == 0)
        (.leaf (some (Instr.mk (30) (1) (0) (0) (p) (0) (0) (0))))
        (.leaf (some (Instr.mk (25) (3) (0) (0) (0) (0) (11) (0)))))
       (.br (z == 6)
        (.leaf (some (Instr.mk (13) (2) (0) (0) (0) (y) (0) (0))))
        (.leaf (some (Instr.mk (27) (1) (0) (0) (0) (0) (0) (y))))))))))
def rhighF (y z p q : Int) : Instr := (rhighT y z p q).val.getD noInstr
def rhighP (y z p q : Int) : Bool := (rhighT y z p q).val.isSome
def rhighE : Entry := pureE (AC.cons i64 (AC.cons i64 (AC.cons i64 (AC.one i64)))) (RC.one cInstr) (fun a => some (rhighP a.1 a.2.1 a.2.2.1 a.2.2.2)) (fun ⟨y, z, p, q⟩ => rhighF y z p q)
theorem rhigh_ok : EntryOk Try.prog 34 rhighE :=
  pureE_part0 5 (l := []) trivial Try.func34 rfl Try.call34 (t := fun ⟨y, z, p, q⟩ => rhighT y z p q) (fun ⟨y, z, p, q⟩ => by kernel_rfl)
    (fun a _ hp => getD_of (of_pre hp))

def decodeT (chip : Int) (op : Int) : RT (Option (Instr)) :=
  .br (chip == 2)
  (.br (Prod.snd (later op))
   (.leaf (some ((Prod.fst (later op)))))
   (.br (Prod.snd (earlier op))
    (.leaf (some ((Prod.fst (earlier op)))))
    (.br (shrI IntKind.u8 op 6 == 0)
     (.leaf (some ((lowF op))))
     (.br (shrI IntKind.u8 op 6 == 1)
      (.br (op == 118)
       (.leaf (some (Instr.mk (37) (1) (0) (0) (0) (0) (0) (0))))
       (.leaf (some (Instr.mk (2) (1) (IntKind.wrap IntKind.i64 (andI IntKind.u8 (shrI IntKind.u8 op 3) 7)) (IntKind.wrap IntKind.i64 (andI IntKind.u8 op 7)) (0) (0) (0) (0)))))
      (.br (shrI IntKind.u8 op 6 == 2)
       (.leaf (some (Instr.mk (12) (1) (0) (IntKind.wrap IntKind.i64 (andI IntKind.u8 op 7)) (0) (IntKind.wrap IntKind.i64 (andI IntKind.u8 (shrI IntKind.u8 op 3) 7)) (0) (0))))
       (.br (highP op)
        (.leaf (some ((highF op))))
        (.leaf none)))))))
  (.br (Prod.snd (earlier op))
   (.leaf (some ((Prod.fst (earlier op)))))
   (.br (shrI IntKind.u8 op 6 == 0)
    (.leaf (some ((lowF op))))
    (.br (shrI IntKind.u8 op 6 == 1)
     (.br (op == 118)
      (.leaf (some (Instr.mk (37) (1) (0) (0) (0) (0) (0) (0))))
      (.leaf (some (Instr.mk (2) (1) (IntKind.wrap IntKind.i64 (andI IntKind.u8 (shrI IntKind.u8 op 3) 7)) (IntKind.wrap IntKind.i64 (andI IntKind.u8 op 7)) (0) (0) (0) (0)))))
     (.br (shrI IntKind.u8 op 6 == 2)
      (.leaf (some (Instr.mk (12) (1) (0) (IntKind.wrap IntKind.i64 (andI IntKind.u8 op 7)) (0) (IntKind.wrap IntKind.i64 (andI IntKind.u8 (shrI IntKind.u8 op 3) 7)) (0) (0))))
      (.br (highP op)
       (.leaf (some ((highF op))))
       (.leaf none))))))
def decodeF (chip op : Int) : Instr := (decodeT chip op).val.getD noInstr
def decodeE : Entry := pureE (AC.cons i64 (AC.one u8)) (RC.one cInstr) (fun _ => none) (fun ⟨chip, op⟩ => decodeF chip op)
theorem decode_ok : EntryOk Try.prog 22 decodeE :=
  pureE_part0 7 (l := [(27, laterE), (28, earlierE), (29, lowE), (30, highE)]) ⟨later_ok, earlier_ok, low_ok, high_ok, trivial⟩ Try.func22 rfl Try.call22 (t := fun ⟨chip, op⟩ => decodeT chip op) (fun ⟨chip, op⟩ => by kernel_rfl)
    (fun a hi _ => by
      obtain ⟨chip, op⟩ := a
      obtain ⟨_, hop⟩ := hi
      have hop : inR .u8 op := hop
      refine getD_of ?_
      show (decodeT chip op).val.isSome = true
      by_cases h : chip = 2
      · subst h; exact byte_all (fun op => (decodeT 2 op).val.isSome = true) (by decide +kernel) op hop
      · have e : (decodeT chip op).val = (decodeT 0 op).val := by
          have h1 : (chip == 2) = false := by simpa using h
          have h0 : ((0 : Int) == 2) = false := rfl
          simp only [decodeT, RT.val, h1, h0]
        rw [e]; exact byte_all (fun op => (decodeT 0 op).val.isSome = true) (by decide +kernel) op hop)

def rdecodeT (chip : Int) (op : Int) : RT (Option (Instr)) :=
  .br (Prod.snd (special op) && on8085 chip)
  (.leaf (some ((Prod.fst (special op)))))
  (.br (shrI IntKind.u8 op 6 == 0)
   (.br (rlowP (IntKind.wrap IntKind.i64 (andI IntKind.u8 (shrI IntKind.u8 op 3) 7)) (IntKind.wrap IntKind.i64 (andI IntKind.u8 op 7))
  (shrI IntKind.i64 (IntKind.wrap IntKind.i64 (andI IntKind.u8 (shrI IntKind.u8 op 3) 7)) 1) (andI IntKind.i64 (IntKind.wrap IntKind.i64 (andI IntKind.u8 (shrI IntKind.u8 op 3) 7)) 1))
    (.leaf (some (Instr.mk (Instr.Kind
  (rlowF (IntKind.wrap IntKind.i64 (andI IntKind.u8 (shrI IntKind.u8 op 3) 7)) (IntKind.wrap IntKind.i64 (andI IntKind.u8 op 7))
    (shrI IntKind.i64 (IntKind.wrap IntKind.i64 (andI IntKind.u8 (shrI IntKind.u8 op 3) 7)) 1) (andI IntKind.i64 (IntKind.wrap IntKind.i64 (andI IntKind.u8 (shrI IntKind.u8 op 3) 7)) 1))) (Instr.Length
  (rlowF (IntKind.wrap IntKind.i64 (andI IntKind.u8 (shrI IntKind.u8 op 3) 7)) (IntKind.wrap IntKind.i64 (andI IntKind.u8 op 7))
    (shrI IntKind.i64 (IntKind.wrap IntKind.i64 (andI IntKind.u8 (shrI IntKind.u8 op 3) 7)) 1) (andI IntKind.i64 (IntKind.wrap IntKind.i64 (andI IntKind.u8 (shrI IntKind.u8 op 3) 7)) 1))) (Instr.Dst
  (rlowF (IntKind.wrap IntKind.i64 (andI IntKind.u8 (shrI IntKind.u8 op 3) 7)) (IntKind.wrap IntKind.i64 (andI IntKind.u8 op 7))
    (shrI IntKind.i64 (IntKind.wrap IntKind.i64 (andI IntKind.u8 (shrI IntKind.u8 op 3) 7)) 1) (andI IntKind.i64 (IntKind.wrap IntKind.i64 (andI IntKind.u8 (shrI IntKind.u8 op 3) 7)) 1))) (Instr.Src
  (rlowF (IntKind.wrap IntKind.i64 (andI IntKind.u8 (shrI IntKind.u8 op 3) 7)) (IntKind.wrap IntKind.i64 (andI IntKind.u8 op 7))
    (shrI IntKind.i64 (IntKind.wrap IntKind.i64 (andI IntKind.u8 (shrI IntKind.u8 op 3) 7)) 1) (andI IntKind.i64 (IntKind.wrap IntKind.i64 (andI IntKind.u8 (shrI IntKind.u8 op 3) 7)) 1))) (Instr.Pair
  (rlowF (IntKind.wrap IntKind.i64 (andI IntKind.u8 (shrI IntKind.u8 op 3) 7)) (IntKind.wrap IntKind.i64 (andI IntKind.u8 op 7))
    (shrI IntKind.i64 (IntKind.wrap IntKind.i64 (andI IntKind.u8 (shrI IntKind.u8 op 3) 7)) 1) (andI IntKind.i64 (IntKind.wrap IntKind.i64 (andI IntKind.u8 (shrI IntKind.u8 op 3) 7)) 1))) (Instr.Op
  (rlowF (IntKind.wrap IntKind.i64 (andI IntKind.u8 (shrI IntKind.u8 op 3) 7)) (IntKind.wrap IntKind.i64 (andI IntKind.u8 op 7))
    (shrI IntKind.i64 (IntKind.wrap IntKind.i64 (andI IntKind.u8 (shrI IntKind.u8 op 3) 7)) 1) (andI IntKind.i64 (IntKind.wrap IntKind.i64 (andI IntKind.u8 (shrI IntKind.u8 op 3) 7)) 1))) (Instr.Cond
  (rlowF (IntKind.wrap IntKind.i64 (andI IntKind.u8 (shrI IntKind.u8 op 3) 7)) (IntKind.wrap IntKind.i64 (andI IntKind.u8 op 7))
    (shrI IntKind.i64 (IntKind.wrap IntKind.i64 (andI IntKind.u8 (shrI IntKind.u8 op 3) 7)) 1) (andI IntKind.i64 (IntKind.wrap IntKind.i64 (andI IntKind.u8 (shrI IntKind.u8 op 3) 7)) 1))) (Instr.N
  (rlowF (IntKind.wrap IntKind.i64 (andI IntKind.u8 (shrI IntKind.u8 op 3) 7)) (IntKind.wrap IntKind.i64 (andI IntKind.u8 op 7))
    (shrI IntKind.i64 (IntKind.wrap IntKind.i64 (andI IntKind.u8 (shrI IntKind.u8 op 3) 7)) 1) (andI IntKind.i64 (IntKind.wrap IntKind.i64 (andI IntKind.u8 (shrI IntKind.u8 op 3) 7)) 1))))))
    (.leaf none))
   (.br (shrI IntKind.u8 op 6 == 1)
    (.br (op == 118)
     (.leaf (some (Instr.mk (37) (1) (0) (0) (0) (0) (0) (0))))
     (.leaf (some (Instr.mk (2) (1) (IntKind.wrap IntKind.i64 (andI IntKind.u8 (shrI IntKind.u8 op 3) 7)) (IntKind.wrap IntKind.i64 (andI IntKind.u8 op 7)) (0) (0) (0) (0)))))
    (.br (shrI IntKind.u8 op 6 == 2)
     (.leaf (some (Instr.mk (12) (1) (0) (IntKind.wrap IntKind.i64 (andI IntKind.u8 op 7)) (0) (IntKind.wrap IntKind.i64 (andI IntKind.u8 (shrI IntKind.u8 op 3) 7)) (0) (0))))
     (.br (rhighP (IntKind.wrap IntKind.i64 (andI IntKind.u8 (shrI IntKind.u8 op 3) 7)) (IntKind.wrap IntKind.i64 (andI IntKind.u8 op 7))
  (shrI IntKind.i64 (IntKind.wrap IntKind.i64 (andI IntKind.u8 (shrI IntKind.u8 op 3) 7)) 1) (andI IntKind.i64 (IntKind.wrap IntKind.i64 (andI IntKind.u8 (shrI IntKind.u8 op 3) 7)) 1))
      (.leaf (some (Instr.mk (Instr.Kind
  (rhighF (IntKind.wrap IntKind.i64 (andI IntKind.u8 (shrI IntKind.u8 op 3) 7)) (IntKind.wrap IntKind.i64 (andI IntKind.u8 op 7))
    (shrI IntKind.i64 (IntKind.wrap IntKind.i64 (andI IntKind.u8 (shrI IntKind.u8 op 3) 7)) 1) (andI IntKind.i64 (IntKind.wrap IntKind.i64 (andI IntKind.u8 (shrI IntKind.u8 op 3) 7)) 1))) (Instr.Length
  (rhighF (IntKind.wrap IntKind.i64 (andI IntKind.u8 (shrI IntKind.u8 op 3) 7)) (IntKind.wrap IntKind.i64 (andI IntKind.u8 op 7))
    (shrI IntKind.i64 (IntKind.wrap IntKind.i64 (andI IntKind.u8 (shrI IntKind.u8 op 3) 7)) 1) (andI IntKind.i64 (IntKind.wrap IntKind.i64 (andI IntKind.u8 (shrI IntKind.u8 op 3) 7)) 1))) (Instr.Dst
  (rhighF (IntKind.wrap IntKind.i64 (andI IntKind.u8 (shrI IntKind.u8 op 3) 7)) (IntKind.wrap IntKind.i64 (andI IntKind.u8 op 7))
    (shrI IntKind.i64 (IntKind.wrap IntKind.i64 (andI IntKind.u8 (shrI IntKind.u8 op 3) 7)) 1) (andI IntKind.i64 (IntKind.wrap IntKind.i64 (andI IntKind.u8 (shrI IntKind.u8 op 3) 7)) 1))) (Instr.Src
  (rhighF (IntKind.wrap IntKind.i64 (andI IntKind.u8 (shrI IntKind.u8 op 3) 7)) (IntKind.wrap IntKind.i64 (andI IntKind.u8 op 7))
    (shrI IntKind.i64 (IntKind.wrap IntKind.i64 (andI IntKind.u8 (shrI IntKind.u8 op 3) 7)) 1) (andI IntKind.i64 (IntKind.wrap IntKind.i64 (andI IntKind.u8 (shrI IntKind.u8 op 3) 7)) 1))) (Instr.Pair
  (rhighF (IntKind.wrap IntKind.i64 (andI IntKind.u8 (shrI IntKind.u8 op 3) 7)) (IntKind.wrap IntKind.i64 (andI IntKind.u8 op 7))
    (shrI IntKind.i64 (IntKind.wrap IntKind.i64 (andI IntKind.u8 (shrI IntKind.u8 op 3) 7)) 1) (andI IntKind.i64 (IntKind.wrap IntKind.i64 (andI IntKind.u8 (shrI IntKind.u8 op 3) 7)) 1))) (Instr.Op
  (rhighF (IntKind.wrap IntKind.i64 (andI IntKind.u8 (shrI IntKind.u8 op 3) 7)) (IntKind.wrap IntKind.i64 (andI IntKind.u8 op 7))
    (shrI IntKind.i64 (IntKind.wrap IntKind.i64 (andI IntKind.u8 (shrI IntKind.u8 op 3) 7)) 1) (andI IntKind.i64 (IntKind.wrap IntKind.i64 (andI IntKind.u8 (shrI IntKind.u8 op 3) 7)) 1))) (Instr.Cond
  (rhighF (IntKind.wrap IntKind.i64 (andI IntKind.u8 (shrI IntKind.u8 op 3) 7)) (IntKind.wrap IntKind.i64 (andI IntKind.u8 op 7))
    (shrI IntKind.i64 (IntKind.wrap IntKind.i64 (andI IntKind.u8 (shrI IntKind.u8 op 3) 7)) 1) (andI IntKind.i64 (IntKind.wrap IntKind.i64 (andI IntKind.u8 (shrI IntKind.u8 op 3) 7)) 1))) (Instr.N
  (rhighF (IntKind.wrap IntKind.i64 (andI IntKind.u8 (shrI IntKind.u8 op 3) 7)) (IntKind.wrap IntKind.i64 (andI IntKind.u8 op 7))
    (shrI IntKind.i64 (IntKind.wrap IntKind.i64 (andI IntKind.u8 (shrI IntKind.u8 op 3) 7)) 1) (andI IntKind.i64 (IntKind.wrap IntKind.i64 (andI IntKind.u8 (shrI IntKind.u8 op 3) 7)) 1))))))
      (.leaf none)))))
def rdecodeF (chip op : Int) : Instr := (rdecodeT chip op).val.getD noInstr
def rdecodeE : Entry := pureE (AC.cons i64 (AC.one u8)) (RC.one cInstr) (fun _ => none) (fun ⟨chip, op⟩ => rdecodeF chip op)
theorem rdecode_ok : EntryOk Try.prog 23 rdecodeE :=
  pureE_part0 7 (l := [(31, specialE), (32, on8085E), (33, rlowE), (34, rhighE)]) ⟨special_ok, on8085_ok, rlow_ok, rhigh_ok, trivial⟩ Try.func23 rfl Try.call23 (t := fun ⟨chip, op⟩ => rdecodeT chip op) (fun ⟨chip, op⟩ => by kernel_rfl)
    (fun a hi _ => by
      obtain ⟨chip, op⟩ := a
      obtain ⟨_, hop⟩ := hi
      have hop : inR .u8 op := hop
      refine getD_of ?_
      show (rdecodeT chip op).val.isSome = true
      by_cases h : chip = 2
      · subst h; exact byte_all (fun op => (rdecodeT 2 op).val.isSome = true) (by decide +kernel) op hop
      · have e : (rdecodeT chip op).val = (rdecodeT 0 op).val := by
          have h1 : on8085 chip = false := by simpa [on8085, on8085T, RT.val] using h
          have h0 : on8085 0 = false := rfl
          simp only [rdecodeT, RT.val, h1, h0]
        rw [e]; exact byte_all (fun op => (rdecodeT 0 op).val.isSome = true) (by decide +kernel) op hop)


abbrev EncT : Type := Int × Int × Int × Bool × (Instr × Unit)
def eqI (a b : Instr) : Bool := a.Kind == b.Kind && (a.Length == b.Length && (a.Dst == b.Dst && (a.Src == b.Src && (a.Pair == b.Pair && (a.Op == b.Op && (a.Cond == b.Cond && (a.N == b.N && true)))))))
theorem eqI_iff (a b : Instr) : eqI a b = true ↔ a = b := by
  obtain ⟨a1, a2, a3, a4, a5, a6, a7, a8⟩ := a
  obtain ⟨b1, b2, b3, b4, b5, b6, b7, b8⟩ := b
  simp [eqI]
def encLC : LC EncT := LC.slot 0 i64 (LC.slot 7 i64 (LC.slot 4 u8 (LC.slot 5 boo (LC.ptr 3 0 0 (LC.base (BC.cons pcInstr BC.nil))))))
def encRoundT (chip k r : Int) (ok : Bool) (i : Instr) : RT (Option (Go1 EncT)) :=
  .br (decide (k < 256))
  (.br (Instr.Kind (decodeF chip (IntKind.wrap IntKind.u8 k)) == Instr.Kind i &&
  (Instr.Length (decodeF chip (IntKind.wrap IntKind.u8 k)) == Instr.Length i &&
    (Instr.Dst (decodeF chip (IntKind.wrap IntKind.u8 k)) == Instr.Dst i &&
      (Instr.Src (decodeF chip (IntKind.wrap IntKind.u8 k)) == Instr.Src i &&
        (Instr.Pair (decodeF chip (IntKind.wrap IntKind.u8 k)) == Instr.Pair i &&
          (Instr.Op (decodeF chip (IntKind.wrap IntKind.u8 k)) == Instr.Op i &&
            (Instr.Cond (decodeF chip (IntKind.wrap IntKind.u8 k)) == Instr.Cond i && (Instr.N (decodeF chip (IntKind.wrap IntKind.u8 k)) == Instr.N i && true))))))))
   (.leaf (some (Go1.ret (chip, k, IntKind.wrap IntKind.u8 k, true, Instr.mk (Instr.Kind i) (Instr.Length i) (Instr.Dst i) (Instr.Src i) (Instr.Pair i) (Instr.Op i) (Instr.Cond i) (Instr.N i), PUnit.unit))))
   (.leaf (some (Go1.cont (chip, IntKind.wrap IntKind.i64 (k + 1), r, ok, Instr.mk (Instr.Kind i) (Instr.Length i) (Instr.Dst i) (Instr.Src i) (Instr.Pair i) (Instr.Op i) (Instr.Cond i) (Instr.N i), PUnit.unit)))))
  (.leaf (some (Go1.brk (chip, k, r, ok, Instr.mk (Instr.Kind i) (Instr.Length i) (Instr.Dst i) (Instr.Src i) (Instr.Pair i) (Instr.Op i) (Instr.Cond i) (Instr.N i), PUnit.unit))))
def encGo (n : Nat) (a : EncT) : Bool × EncT :=
  match n with
  | 0 => (false, a)
  | n + 1 => bif eqI (decodeF a.1 (IntKind.wrap IntKind.u8 a.2.1)) a.2.2.2.2.1 then (true, (a.1, a.2.1, IntKind.wrap IntKind.u8 a.2.1, true, a.2.2.2.2)) else encGo n (a.1, IntKind.wrap IntKind.i64 (a.2.1 + 1), a.2.2)
def encRes (a : EncT) : Bool × EncT := encGo (256 - a.2.1).toNat a
def encPre (a : EncT) : Option Bool := some (decide (0 ≤ a.2.1 ∧ a.2.1 ≤ 256))
def encOra : Ora := oraOf true 19 encLC encPre encRes
theorem encNoLoops : loopsIn (bodyIn Try.f25.body 0) = [] := by kernel_rfl
theorem encLoop : OraOk (envL Try.prog [(22, decodeE)] [(0, encOra)] 5) (.block 0 (.loop (bodyIn Try.f25.body 0))) encOra := by
  refine loop_ok (envL_ok (l := [(22, decodeE)]) ⟨decode_ok, trivial⟩ _ _) (loopsOk_of _ (by rw [encNoLoops]; simp)) (Or.inl rfl) (fun a => 0 ≤ a.2.1 ∧ a.2.1 ≤ 256) (fun a => (256 - a.2.1).toNat) (fun a _ h => of_decide_eq_true (of_pre h)) ?_
  rintro ⟨chip, k, r, ok, i, ⟨⟩⟩ _ ⟨hk0, hk1⟩
  have hk0 : 0 ≤ k := hk0
  have hk1 : k ≤ 256 := hk1
  have e : (evCode (envL Try.prog [(22, decodeE)] [(0, encOra)] 5) (bodyIn Try.f25.body 0) (stateOf 19 encLC (chip, k, r, ok, (i, ())))).map (classify 0 19 encLC) = encRoundT chip k r ok i := by kernel_rfl
  rw [e]
  by_cases hk : k < 256
  · have hd : decide (k < 256) = true := by simpa using hk
    obtain ⟨m, hm⟩ : ∃ m, (256 - k).toNat = m + 1 := ⟨(256 - k).toNat - 1, by omega⟩
    have hw : IntKind.wrap IntKind.i64 (k + 1) = k + 1 := by simp [IntKind.wrap, IntKind.signed, IntKind.bits]; omega
    have hres : encRes (chip, k, r, ok, i, ()) = (bif eqI (decodeF chip (IntKind.wrap IntKind.u8 k)) i then (true, (chip, k, IntKind.wrap IntKind.u8 k, true, i, ())) else encGo m (chip, IntKind.wrap IntKind.i64 (k + 1), r, ok, i, ())) := by
      simp only [encRes, hm, encGo]
    by_cases hq : eqI (decodeF chip (IntKind.wrap IntKind.u8 k)) i = true
    · have ev : (encRoundT chip k r ok i).val = some (Go1.ret (chip, k, IntKind.wrap IntKind.u8 k, true, i, ())) := by
        show cond (decide (k < 256)) (cond (eqI (decodeF chip (IntKind.wrap IntKind.u8 k)) i) _ _) _ = _
        rw [hd, hq]; rfl
      rw [ev]
      show encRes _ = _
      rw [hres, hq]; rfl
    · have hq : eqI (decodeF chip (IntKind.wrap IntKind.u8 k)) i = false := by simpa using hq
      have ev : (encRoundT chip k r ok i).val = some (Go1.cont (chip, IntKind.wrap IntKind.i64 (k + 1), r, ok, i, ())) := by
        show cond (decide (k < 256)) (cond (eqI (decodeF chip (IntKind.wrap IntKind.u8 k)) i) _ _) _ = _
        rw [hd, hq]; rfl
      rw [ev]
      refine ⟨⟨?_, ?_⟩, ?_, ?_⟩
      · show 0 ≤ IntKind.wrap IntKind.i64 (k + 1); omega
      · show IntKind.wrap IntKind.i64 (k + 1) ≤ 256; omega
      · show (256 - IntKind.wrap IntKind.i64 (k + 1)).toNat < (256 - k).toNat; omega
      · rw [hres, hq]
        have : (256 - IntKind.wrap IntKind.i64 (k + 1)).toNat = m := by omega
        simp only [encRes, this, cond_false]
  · have hd : decide (k < 256) = false := by simpa using hk
    have ev : (encRoundT chip k r ok i).val = some (Go1.brk (chip, k, r, ok, i, ())) := by
      show cond (decide (k < 256)) _ _ = _
      rw [hd]; rfl
    rw [ev]
    have : (256 - k).toNat = 0 := by omega
    show encRes _ = _
    simp only [encRes, this, encGo]
def enc0 (chip : Int) (i : Instr) : Bool × EncT := encRes (chip, 0, 0, false, i, ())
def encodeT (chip : Int) (i : Instr) : RT (Option (Int × Bool)) :=
  .br (decide (0 ≤ 0 ∧ 0 ≤ 256))
  (.br (Prod.fst (encRes (chip, 0, 0, false, Instr.mk (Instr.Kind i) (Instr.Length i) (Instr.Dst i) (Instr.Src i) (Instr.Pair i) (Instr.Op i) (Instr.Cond i) (Instr.N i), ())))
   (.leaf (some ((fun a b => (a, b)) (Prod.fst (Prod.snd (Prod.snd (Prod.snd (encRes (chip, 0, 0, false, Instr.mk (Instr.Kind i) (Instr.Length i) (Instr.Dst i) (Instr.Src i) (Instr.Pair i) (Instr.Op i) (Instr.Cond i) (Instr.N i), ())))))) (Prod.fst
  (Prod.snd
    (Prod.snd (Prod.snd (Prod.snd (encRes (chip, 0, 0, false, Instr.mk (Instr.Kind i) (Instr.Length i) (Instr.Dst i) (Instr.Src i) (Instr.Pair i) (Instr.Op i) (Instr.Cond i) (Instr.N i), ()))))))))))
   (.leaf (some ((fun a b => (a, b)) (0) (false)))))
  (.leaf none)
def encodeF (chip : Int) (i : Instr) : Int × Bool := bif (enc0 chip i).1 then ((enc0 chip i).2.2.2.1, (enc0 chip i).2.2.2.2.1) else (0, false)
def encodeE : Entry := pureE (AC.cons i64 (AC.one cInstr)) (RC.two u8 boo) (fun _ => none) (fun a => encodeF a.1 a.2)
theorem encode_ok : EntryOk Try.prog 25 encodeE :=
  pureL_part 5 (ol := [(0, encOra)]) (l := [(22, decodeE)]) ⟨decode_ok, trivial⟩ Try.func25 (c := Try.f25.body.getD .skip) rfl Try.call25
    (loopsOk_of _ (by
      have e : loopsIn (Try.f25.body.getD .skip) = [(0, bodyIn Try.f25.body 0)] := by kernel_rfl
      rw [e]
      intro p hp f hf
      simp only [List.mem_singleton] at hp
      subst hp
      simp only [envL, lookL, Option.some.injEq] at hf
      have hf : encOra = f := by simpa [Nat.beq] using hf
      subst hf
      exact encLoop))
    (t := fun a => encodeT a.1 a.2) (fun a => by kernel_rfl)
    (fun a _ _ => by
      show (encodeT a.1 a.2).val = some (encodeF a.1 a.2)
      show cond (decide ((0 : Int) ≤ 0 ∧ (0 : Int) ≤ 256)) (cond (enc0 a.1 a.2).1 _ _) _ = _
      have : decide ((0 : Int) ≤ 0 ∧ (0 : Int) ≤ 256) = true := by decide
      rw [this]
      simp only [encodeF]
      cases (enc0 a.1 a.2).1 <;> rfl)
def rencLC : LC EncT := LC.slot 0 i64 (LC.slot 6 i64 (LC.slot 4 u8 (LC.slot 5 boo (LC.ptr 3 0 0 (LC.base (BC.cons pcInstr BC.nil))))))
def rencRoundT (chip k r : Int) (ok : Bool) (i : Instr) : RT (Option (Go1 EncT)) :=
  .br (decide (k < 256))
  (.br (Instr.Kind (rdecodeF chip (IntKind.wrap IntKind.u8 k)) == Instr.Kind i &&
  (Instr.Length (rdecodeF chip (IntKind.wrap IntKind.u8 k)) == Instr.Length i &&
    (Instr.Dst (rdecodeF chip (IntKind.wrap IntKind.u8 k)) == Instr.Dst i &&
      (Instr.Src (rdecodeF chip (IntKind.wrap IntKind.u8 k)) == Instr.Src i &&
        (Instr.Pair (rdecodeF chip (IntKind.wrap IntKind.u8 k)) == Instr.Pair i &&
          (Instr.Op (rdecodeF chip (IntKind.wrap IntKind.u8 k)) == Instr.Op i &&
            (Instr.Cond (rdecodeF chip (IntKind.wrap IntKind.u8 k)) == Instr.Cond i && (Instr.N (rdecodeF chip (IntKind.wrap IntKind.u8 k)) == Instr.N i && true))))))))
   (.leaf (some (Go1.ret (chip, k, IntKind.wrap IntKind.u8 k, true, Instr.mk (Instr.Kind i) (Instr.Length i) (Instr.Dst i) (Instr.Src i) (Instr.Pair i) (Instr.Op i) (Instr.Cond i) (Instr.N i), PUnit.unit))))
   (.leaf (some (Go1.cont (chip, IntKind.wrap IntKind.i64 (k + 1), r, ok, Instr.mk (Instr.Kind i) (Instr.Length i) (Instr.Dst i) (Instr.Src i) (Instr.Pair i) (Instr.Op i) (Instr.Cond i) (Instr.N i), PUnit.unit)))))
  (.leaf (some (Go1.brk (chip, k, r, ok, Instr.mk (Instr.Kind i) (Instr.Length i) (Instr.Dst i) (Instr.Src i) (Instr.Pair i) (Instr.Op i) (Instr.Cond i) (Instr.N i), PUnit.unit))))
def rencGo (n : Nat) (a : EncT) : Bool × EncT :=
  match n with
  | 0 => (false, a)
  | n + 1 => bif eqI (rdecodeF a.1 (IntKind.wrap IntKind.u8 a.2.1)) a.2.2.2.2.1 then (true, (a.1, a.2.1, IntKind.wrap IntKind.u8 a.2.1, true, a.2.2.2.2)) else rencGo n (a.1, IntKind.wrap IntKind.i64 (a.2.1 + 1), a.2.2)
def rencRes (a : EncT) : Bool × EncT := rencGo (256 - a.2.1).toNat a
def rencPre (a : EncT) : Option Bool := some (decide (0 ≤ a.2.1 ∧ a.2.1 ≤ 256))
def rencOra : Ora := oraOf true 19 rencLC rencPre rencRes
theorem rencNoLoops : loopsIn (bodyIn Try.f26.body 0) = [] := by kernel_rfl
theorem rencLoop : OraOk (envL Try.prog [(23, rdecodeE)] [(0, rencOra)] 5) (.block 0 (.loop (bodyIn Try.f26.body 0))) rencOra := by
  refine loop_ok (envL_ok (l := [(23, rdecodeE)]) ⟨rdecode_ok, trivial⟩ _ _) (loopsOk_of _ (by rw [rencNoLoops]; simp)) (Or.inl rfl) (fun a => 0 ≤ a.2.1 ∧ a.2.1 ≤ 256) (fun a => (256 - a.2.1).toNat) (fun a _ h => of_decide_eq_true (of_pre h)) ?_
  rintro ⟨chip, k, r, ok, i, ⟨⟩⟩ _ ⟨hk0, hk1⟩
  have hk0 : 0 ≤ k := hk0
  have hk1 : k ≤ 256 := hk1
  have e : (evCode (envL Try.prog [(23, rdecodeE)] [(0, rencOra)] 5) (bodyIn Try.f26.body 0) (stateOf 19 rencLC (chip, k, r, ok, (i, ())))).map (classify 0 19 rencLC) = rencRoundT chip k r ok i := by kernel_rfl
  rw [e]
  by_cases hk : k < 256
  · have hd : decide (k < 256) = true := by simpa using hk
    obtain ⟨m, hm⟩ : ∃ m, (256 - k).toNat = m + 1 := ⟨(256 - k).toNat - 1, by omega⟩
    have hw : IntKind.wrap IntKind.i64 (k + 1) = k + 1 := by simp [IntKind.wrap, IntKind.signed, IntKind.bits]; omega
    have hres : rencRes (chip, k, r, ok, i, ()) = (bif eqI (rdecodeF chip (IntKind.wrap IntKind.u8 k)) i then (true, (chip, k, IntKind.wrap IntKind.u8 k, true, i, ())) else rencGo m (chip, IntKind.wrap IntKind.i64 (k + 1), r, ok, i, ())) := by
      simp only [rencRes, hm, rencGo]
    by_cases hq : eqI (rdecodeF chip (IntKind.wrap IntKind.u8 k)) i = true
    · have ev : (rencRoundT chip k r ok i).val = some (Go1.ret (chip, k, IntKind.wrap IntKind.u8 k, true, i, ())) := by
        show cond (decide (k < 256)) (cond (eqI (rdecodeF chip (IntKind.wrap IntKind.u8 k)) i) _ _) _ = _
        rw [hd, hq]; rfl
      rw [ev]
      show rencRes _ = _
      rw [hres, hq]; rfl
    · have hq : eqI (rdecodeF chip (IntKind.wrap IntKind.u8 k)) i = false := by simpa using hq
      have ev : (rencRoundT chip k r ok i).val = some (Go1.cont (chip, IntKind.wrap IntKind.i64 (k + 1), r, ok, i, ())) := by
        show cond (decide (k < 256)) (cond (eqI (rdecodeF chip (IntKind.wrap IntKind.u8 k)) i) _ _) _ = _
        rw [hd, hq]; rfl
      rw [ev]
      refine ⟨⟨?_, ?_⟩, ?_, ?_⟩
      · show 0 ≤ IntKind.wrap IntKind.i64 (k + 1); omega
      · show IntKind.wrap IntKind.i64 (k + 1) ≤ 256; omega
      · show (256 - IntKind.wrap IntKind.i64 (k + 1)).toNat < (256 - k).toNat; omega
      · rw [hres, hq]
        have : (256 - IntKind.wrap IntKind.i64 (k + 1)).toNat = m := by omega
        simp only [rencRes, this, cond_false]
  · have hd : decide (k < 256) = false := by simpa using hk
    have ev : (rencRoundT chip k r ok i).val = some (Go1.brk (chip, k, r, ok, i, ())) := by
      show cond (decide (k < 256)) _ _ = _
      rw [hd]; rfl
    rw [ev]
    have : (256 - k).toNat = 0 := by omega
    show rencRes _ = _
    simp only [rencRes, this, rencGo]
def renc0 (chip : Int) (i : Instr) : Bool × EncT := rencRes (chip, 0, 0, false, i, ())
def rencodeT (chip : Int) (i : Instr) : RT (Option (Int × Bool)) :=
  .br (decide (0 ≤ 0 ∧ 0 ≤ 256))
  (.br (Prod.fst (rencRes (chip, 0, 0, false, Instr.mk (Instr.Kind i) (Instr.Length i) (Instr.Dst i) (Instr.Src i) (Instr.Pair i) (Instr.Op i) (Instr.Cond i) (Instr.N i), ())))
   (.leaf (some ((fun a b => (a, b)) (Prod.fst (Prod.snd (Prod.snd (Prod.snd (rencRes (chip, 0, 0, false, Instr.mk (Instr.Kind i) (Instr.Length i) (Instr.Dst i) (Instr.Src i) (Instr.Pair i) (Instr.Op i) (Instr.Cond i) (Instr.N i), ())))))) (Prod.fst
  (Prod.snd
    (Prod.snd (Prod.snd (Prod.snd (rencRes (chip, 0, 0, false, Instr.mk (Instr.Kind i) (Instr.Length i) (Instr.Dst i) (Instr.Src i) (Instr.Pair i) (Instr.Op i) (Instr.Cond i) (Instr.N i), ()))))))))))
   (.leaf (some ((fun a b => (a, b)) (0) (false)))))
  (.leaf none)
def rencodeF (chip : Int) (i : Instr) : Int × Bool := bif (renc0 chip i).1 then ((renc0 chip i).2.2.2.1, (renc0 chip i).2.2.2.2.1) else (0, false)
def rencodeE : Entry := pureE (AC.cons i64 (AC.one cInstr)) (RC.two u8 boo) (fun _ => none) (fun a => rencodeF a.1 a.2)
theorem rencode_ok : EntryOk Try.prog 26 rencodeE :=
  pureL_part 5 (ol := [(0, rencOra)]) (l := [(23, rdecodeE)]) ⟨rdecode_ok, trivial⟩ Try.func26 (c := Try.f26.body.getD .skip) rfl Try.call26
    (loopsOk_of _ (by
      have e : loopsIn (Try.f26.body.getD .skip) = [(0, bodyIn Try.f26.body 0)] := by kernel_rfl
      rw [e]
      intro p hp f hf
      simp only [List.mem_singleton] at hp
      subst hp
      simp only [envL, lookL, Option.some.injEq] at hf
      have hf : rencOra = f := by simpa [Nat.beq] using hf
      subst hf
      exact rencLoop))
    (t := fun a => rencodeT a.1 a.2) (fun a => by kernel_rfl)
    (fun a _ _ => by
      show (rencodeT a.1 a.2).val = some (rencodeF a.1 a.2)
      show cond (decide ((0 : Int) ≤ 0 ∧ (0 : Int) ≤ 256)) (cond (renc0 a.1 a.2).1 _ _) _ = _
      have : decide ((0 : Int) ≤ 0 ∧ (0 : Int) ≤ 256) = true := by decide
      rw [this]
      simp only [rencodeF]
      cases (renc0 a.1 a.2).1 <;> rfl)

end
end Go.Proofs.Ytmhebjdoodiikaa
