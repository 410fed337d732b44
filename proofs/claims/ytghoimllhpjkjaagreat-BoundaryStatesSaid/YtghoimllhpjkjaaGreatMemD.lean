/-
  Memories: Load, Same and Find of the reference, the program's Valid and Find, Read and Write, as plain functions. Conditions: none.
-/
import Derived.Test.YtghoimllhpjkjaaGreatS3D
import Derived.Test.YtghoimllhpjkjaaGreatProg
import Derived.Test.YtghoimllhpjkjaaGreatCloneC
import Derived.Test.YtghoimllhpjkjaaGreatSortA
open Go.IntKind (u8 u16 i64)
set_option linter.unusedSimpArgs false
open Go Go.S3 Go.Proofs
set_option linter.unusedVariables false
set_option maxRecDepth 100000
namespace Go.Proofs.YtghoimllhpjkjaaGreat
noncomputable section
abbrev Zjd : R := R.pair (R.int u16) (R.int u8)
abbrev Zje : Nat := 106
abbrev ZCB : List Sh := []
def Zry (s : List (Int × Int)) : RT (Option (List (Int × Int))) :=
 .br (Zjl (Stg.l (ZcB Zjd Zje s)) (iN (List.length (Stg.l (ZcB Zjd Zje s))))) (.leaf (some (Cells.isort (Stg.l (ZcB Zjd Zje s))))) (.leaf none)
def ZtF (s : List (Int × Int)) : List (Int × Int) := getO [] (Zry s).val
def Zxo (s : List (Int × Int)) : Bool := okB (Zry s).val
def Zxn : Entry := stE Zjd Zje 185 ZCB (fun a => some (Zxo a.1 )) (fun a => ZtF a.1 )
theorem Zxm : Zc Tryz.prog 184 Zxn :=
 Zjm (P := Tryz.prog) (n := 15) (k := 8) (l := [(243, ZCA), (185, Zan)]) (ol := []) ⟨ZCz, Zam, trivial⟩ Tryz.func184 rfl (by kernel_rfl) Tryz.call184 trivial (r := Zjd) (T := Zje) (g0 := 185) (ts := ZCB) (t := fun a => Zry a.1 ) (fun a => by kernel_rfl)
abbrev ZwO : List Sh := [Sh.one rcCE]
abbrev ZqO : Rs := Rs.one (Sh.one rcCE)
def ZIQ : LS := { n := 45, slots := [(3, .tip 0), (4, .tip 1), (11, .tip 0), (12, .code (Sh.one (R.int i64))), (13, .code (Sh.one (R.int i64)))], boxes := [], stgs := [⟨R.pair (R.int u16) (R.int u8), 106, true⟩, ⟨(R.pair (R.int u16) (R.int u8)), 106, true⟩] }
def ZgS (a : QT19) : RT (Option (Go1 (QT19))) :=
 let x1 := (R.get (R.pair (R.int u16) (R.int u8)) a.2.2.1 a.2.1).2 != 0
 let x2 := i64.wrap (a.2.1 + 1) == iN (List.length a.2.2.1)
 let x3 := !x1 || (x2 || Zf (i64.wrap (a.2.1 + 1)) (List.length a.2.2.1))
 let x4 := x1 && (x2 || (R.get (R.pair (R.int u16) (R.int u8)) a.2.2.1 (i64.wrap (a.2.1 + 1))).1 != (R.get (R.pair (R.int u16) (R.int u8)) a.2.2.1 a.2.1).1)
 let x5 : List (Int × Int) := a.2.2.2.1 ++ [R.get (R.pair (R.int u16) (R.int u8)) a.2.2.1 a.2.1]
 .br (decide (a.2.1 < a.1)) (.br (!Zf a.2.1 (List.length a.2.2.1) || (!x3 || (!x4 || Nat.ble (List.length x5) most))) (.br (!Zf a.2.1 (List.length a.2.2.1) || x3) (.br (Zf a.2.1 (List.length a.2.2.1)) (.leaf (some (Go1.cont (a.1, i64.wrap (a.2.1 + 1), a.2.2.1, bif x4 then x5 else a.2.2.2.1, PUnit.unit)))) (.leaf none)) (.leaf none)) (.leaf none)) (.leaf (some (Go1.brk (a.1, a.2.1, a.2.2.1, a.2.2.2.1, PUnit.unit))))
def Zy3 : Ora := Zcj false ZIQ ZgS (fun a => (a.1 - a.2.1).toNat + 1)
theorem ZBR : ZbF (envX Tryz.prog [(183, Zl8), (184, Zxn), (185, Zan)] [] 127 8) (.block 0 (.loop (ZaA Tryz.f117.body 0))) Zy3 :=
 ZP (ZT (l := [(183, Zl8), (184, Zxn), (185, Zan)]) ⟨Zl7, Zxm, Zam, trivial⟩ [] 127 8) (Zz (by kernel_rfl)) (fun a => by kernel_rfl)
def ZsT (l : List (Int × Int)) : RT (Option (List (Int × Int))) :=
 let x1 := runF false ZgS (fun a => Int.toNat (a.1 - a.2.1) + 1) (iN (List.length (ZtF l)), 0, ZtF l, [], ())
 .br (Nat.ble (List.length l) most) (.br (Zxo l) (.br (okB x1) (.leaf (some (getO (false, iN (List.length (ZtF l)), 0, ZtF l, [], ()) x1).2.2.2.2.1)) (.leaf none)) (.leaf none)) (.leaf none)
def ZGi (l : List (Int × Int)) : List (Int × Int) := getO ZqO.dflt (ZsT l).val
def ZsU (l : List (Int × Int)) : Bool := okB (ZsT l).val
def ZGh : Entry := Zk ZwO ZqO (fun a => some (ZsU a)) (fun a => ZGi a)
theorem ZqN : Zc Tryz.prog 117 ZGh :=
 pureP 127 [(183, Zl8), (184, Zxn), (185, Zan)] [(0, Zy3)] ZwO ZqO ⟨Zl7, Zxm, Zam, trivial⟩ Tryz.func117 Tryz.call117 ⟨ZBR, trivial⟩ (t := fun a => ZsT a) (fun a => by kernel_rfl)
abbrev ZyX : List Sh := [Sh.one rcCE]
abbrev ZqI : Rs := Rs.one (Sh.one R.bool)
def ZGa : LS := { n := 31, slots := [(0, .code (Sh.one rcCE)), (2, .code (Sh.one R.bool)), (5, .code (Sh.one rcCE)), (6, .code (Sh.one (R.int i64))), (7, .code (Sh.one (R.int i64)))], boxes := [], stgs := [] }
def Zdf (a : List (Int × Int) × Bool × List (Int × Int) × Int × Int × PUnit) : RT (Option (Go1 (List (Int × Int) × Bool × List (Int × Int) × Int × Int × PUnit))) :=
 let x1 : Int × Int := R.get (R.pair (R.int u16) (R.int u8)) a.2.2.1 a.2.2.2.2.1
 let x2 := x1.2 == 0
 let x3 : List (Int × Int) × Int × Int × PUnit := (a.2.2.1, a.2.2.2.1, a.2.2.2.2.1, PUnit.unit)
 .br (decide (a.2.2.2.2.1 < a.2.2.2.1)) (.br (!Zf a.2.2.2.2.1 (List.length a.2.2.1) || (x2 || (!decide (a.2.2.2.2.1 > 0) || Zf (i64.wrap (a.2.2.2.2.1 - 1)) (List.length a.1)))) (.br (Zf a.2.2.2.2.1 (List.length a.2.2.1)) (.br (x2 || decide (a.2.2.2.2.1 > 0) && decide (x1.1 ≤ (R.get (R.pair (R.int u16) (R.int u8)) a.1 (i64.wrap (a.2.2.2.2.1 - 1))).1)) (.leaf (some (Go1.ret (a.1, false, x3)))) (.leaf (some (Go1.cont (a.1, a.2.1, a.2.2.1, a.2.2.2.1, i64.wrap (a.2.2.2.2.1 + 1), PUnit.unit))))) (.leaf none)) (.leaf none)) (.leaf (some (Go1.brk (a.1, a.2.1, x3))))
def ZsS : Ora := Zcj true ZGa Zdf (fun a => 1000000000000)
theorem ZwN : ZbF (envX Tryz.prog [] [] 31 8) (.block 0 (.loop (ZaA Tryz.f294.body 0))) ZsS :=
 ZP (ZT (l := []) trivial [] 31 8) (Zz (by kernel_rfl)) (fun a => by kernel_rfl)
def ZhH (m : List (Int × Int)) : RT (Option (Bool)) :=
 let x1 := runF true Zdf (fun a => 1000000000000) (m, false, m, iN (List.length m), 0, ())
 let x2 := getO (false, m, false, m, iN (List.length m), 0, ()) x1
 .br (okB x1) (.br x2.1 (.leaf (some x2.2.2.1)) (.leaf (some (true)))) (.leaf none)
def Zlx (m : List (Int × Int)) : Bool := getO ZqI.dflt (ZhH m).val
def ZqJ (m : List (Int × Int)) : Bool := okB (ZhH m).val
def ZGb : Entry := Zk ZyX ZqI (fun a => some (ZqJ a)) (fun a => Zlx a)
theorem ZF9 : Zc Tryz.prog 294 ZGb :=
 pureP 31 [] [(0, ZsS)] ZyX ZqI trivial Tryz.func294 Tryz.call294 ⟨ZwN, trivial⟩ (t := fun a => ZhH a) (fun a => by kernel_rfl)
abbrev Zoh : List Sh := [Sh.one rcCE, Sh.one rcCE]
abbrev ZiO : Rs := Rs.one (Sh.one R.bool)
def ZDj : LS := { n := 26, slots := [(0, .code (Sh.one rcCE)), (1, .code (Sh.one rcCE)), (4, .code (Sh.one R.bool)), (12, .code (Sh.one (R.int i64))), (13, .code (Sh.one (R.int i64)))], boxes := [], stgs := [] }
def ZdT (a : List (Int × Int) × List (Int × Int) × Bool × Int × Int × PUnit) : RT (Option (Go1 (List (Int × Int) × List (Int × Int) × Bool × Int × Int × PUnit))) :=
 let x1 := !Zf a.2.2.2.2.1 (List.length a.1) || Zf a.2.2.2.2.1 (List.length a.2.1)
 let x2 : Int × Int := R.get (R.pair (R.int u16) (R.int u8)) a.1 a.2.2.2.2.1
 let x3 : Int × Int := R.get (R.pair (R.int u16) (R.int u8)) a.2.1 a.2.2.2.2.1
 let x4 : Int × Int × PUnit := (a.2.2.2.1, a.2.2.2.2.1, PUnit.unit)
 .br (decide (a.2.2.2.2.1 < a.2.2.2.1)) (.br (!x1 || Zf a.2.2.2.2.1 (List.length a.1)) (.br (x1) (.br (!(x2.1 == x3.1 && (x2.2 == x3.2 && true))) (.leaf (some (Go1.ret (a.1, a.2.1, false, x4)))) (.leaf (some (Go1.cont (a.1, a.2.1, a.2.2.1, a.2.2.2.1, i64.wrap (a.2.2.2.2.1 + 1), PUnit.unit))))) (.leaf none)) (.leaf none)) (.leaf (some (Go1.brk (a.1, a.2.1, a.2.2.1, x4))))
def ZrY : Ora := Zcj true ZDj ZdT (fun a => 1000000000000)
theorem Zt3 : ZbF (envX Tryz.prog [] [] 63 8) (.block 0 (.loop (ZaA Tryz.f39.body 0))) ZrY :=
 ZP (ZT (l := []) trivial [] 63 8) (Zz (by kernel_rfl)) (fun a => by kernel_rfl)
def ZfW (a : List (Int × Int)) (b : List (Int × Int)) : RT (Option (Bool)) :=
 let x1 := runF true ZdT (fun a_1 => 1000000000000) (a, b, false, iN (List.length a), 0, ())
 let x2 := getO (false, a, b, false, iN (List.length a), 0, ()) x1
 .br (iN (List.length a) != iN (List.length b)) (.leaf (some (false))) (.br (okB x1) (.br x2.1 (.leaf (some x2.2.2.2.1)) (.leaf (some (true)))) (.leaf none))
def ZDk (a : List (Int × Int)) (b : List (Int × Int)) : Bool := getO ZiO.dflt (ZfW a b).val
def Zt4 (a : List (Int × Int)) (b : List (Int × Int)) : Bool := okB (ZfW a b).val
def ZLe : Entry := Zk Zoh ZiO (fun a => some (Zt4 a.1 a.2)) (fun a => ZDk a.1 a.2)
theorem ZDi : Zc Tryz.prog 39 ZLe :=
 pureP 63 [] [(0, ZrY)] Zoh ZiO trivial Tryz.func39 Tryz.call39 ⟨Zt3, trivial⟩ (t := fun a => ZfW a.1 a.2) (fun a => by kernel_rfl)
abbrev ZLq : Rs := Rs.one (Sh.one (R.int i64))
def Zgv (a : QT12) : RT (Option (Go1 (QT12))) :=
 let x1 : QT8 := R.get (R.pair (R.int u16) (R.pair (R.int u16) (R.pair R.bool (R.int i64)))) a.2.2.1 a.2.2.2.2.1
 let x2 : List (QT8) × Int × Int × PUnit := (a.2.2.1, a.2.2.2.1, a.2.2.2.2.1, PUnit.unit)
 .br (decide (a.2.2.2.2.1 < a.2.2.2.1)) (.br (Zf a.2.2.2.2.1 (List.length a.2.2.1)) (.br (decide (x1.1 ≤ a.1) && decide (a.1 ≤ x1.2.1)) (.leaf (some (Go1.ret (a.1, a.2.2.2.2.1, x2)))) (.leaf (some (Go1.cont (a.1, a.2.1, a.2.2.1, a.2.2.2.1, i64.wrap (a.2.2.2.2.1 + 1), PUnit.unit))))) (.leaf none)) (.leaf (some (Go1.brk (a.1, a.2.1, x2))))
def ZmY (l : List (QT8)) (t : Int) : RT (Option (Int)) :=
 let x1 := runF true Zgv (fun a => 1000000000000) (t, 0, l, iN (List.length l), 0, ())
 let x2 := getO (false, t, 0, l, iN (List.length l), 0, ()) x1
 .br (okB x1) (.br x2.1 (.leaf (some x2.2.2.1)) (.leaf (some (-1)))) (.leaf none)
def ZLr (l : List (QT8)) (t : Int) : Int := getO ZLq.dflt (ZmY l t).val
def ZDN (l : List (QT8)) (t : Int) : Bool := okB (ZmY l t).val
abbrev ZFk : List Sh := [Sh.one rcRG, Sh.one (R.int u16)]
abbrev Zwc : Rs := Rs.one (Sh.one (R.int i64))
def ZIq : LS := { n := 26, slots := [(1, .code (Sh.one (R.int u16))), (4, .code (Sh.one (R.int i64))), (7, .code (Sh.one rcRG)), (8, .code (Sh.one (R.int i64))), (9, .code (Sh.one (R.int i64)))], boxes := [], stgs := [] }
def ZyF (a : QT12) : RT (Option (Go1 (QT12))) :=
 let x1 : QT8 := R.get (R.pair (R.int u16) (R.pair (R.int u16) (R.pair R.bool (R.int i64)))) a.2.2.1 a.2.2.2.2.1
 let x2 : List (QT8) × Int × Int × PUnit := (a.2.2.1, a.2.2.2.1, a.2.2.2.2.1, PUnit.unit)
 .br (decide (a.2.2.2.2.1 < a.2.2.2.1)) (.br (Zf a.2.2.2.2.1 (List.length a.2.2.1)) (.br (decide (x1.1 ≤ a.1) && decide (a.1 ≤ x1.2.1)) (.leaf (some (Go1.ret (a.1, a.2.2.2.2.1, x2)))) (.leaf (some (Go1.cont (a.1, a.2.1, a.2.2.1, a.2.2.2.1, i64.wrap (a.2.2.2.2.1 + 1), PUnit.unit))))) (.leaf none)) (.leaf (some (Go1.brk (a.1, a.2.1, x2))))
def ZyG : Ora := Zcj true ZIq ZyF (fun a => 1000000000000)
theorem ZA2 : ZbF (envX Tryz.prog [] [] 127 8) (.block 0 (.loop (ZaA Tryz.f245.body 0))) ZyG :=
 ZP (ZT (l := []) trivial [] 127 8) (Zz (by kernel_rfl)) (fun a => by kernel_rfl)
def ZyE (l : List (QT8)) (t : Int) : RT (Option (Int)) :=
 let x1 := runF true ZyF (fun a => 1000000000000) (t, 0, l, iN (List.length l), 0, ())
 let x2 := getO (false, t, 0, l, iN (List.length l), 0, ()) x1
 .br (okB x1) (.br x2.1 (.leaf (some x2.2.2.1)) (.leaf (some (-1)))) (.leaf none)
def ZA3 (l : List (QT8)) (t : Int) : Int := getO Zwc.dflt (ZyE l t).val
def ZFl (l : List (QT8)) (t : Int) : Bool := okB (ZyE l t).val
def ZKp : Entry := Zk ZFk Zwc (fun a => some (ZFl a.1 a.2)) (fun a => ZA3 a.1 a.2)
theorem ZIp : Zc Tryz.prog 245 ZKp :=
 pureP 127 [] [(0, ZyG)] ZFk Zwc trivial Tryz.func245 Tryz.call245 ⟨ZA2, trivial⟩ (t := fun a => ZyE a.1 a.2) (fun a => by kernel_rfl)
end
end Go.Proofs.YtghoimllhpjkjaaGreat
namespace Go.Proofs.Cells
def getX (l : List Cell) (a : Int) : Int := ((flt a l).getLast?.map Prod.snd).getD 0
def Vld (m : List Cell) : Prop := m.Pairwise (fun a b => a.1 < b.1) ∧ ∀ c ∈ m, c.2 ≠ 0
theorem ZB0 {l l' : List Cell} (h : Sm l l') (a : Int) : getX l a = getX l' a := by rw [getX, getX, h a]
theorem Vld.srt {m : List Cell} (h : Vld m) : Srt m := h.1.imp fun h => Int.le_of_lt h
theorem Vld.tail {c : Cell} {m : List Cell} (h : Vld (c :: m)) : Vld m := ⟨(List.pairwise_cons.1 h.1).2, fun x hx => h.2 x (List.mem_cons_of_mem _ hx)⟩
theorem Zzd (a : Int) : getX [] a = 0 := rfl
theorem Zi5 (a : Int) (c : Cell) (l : List Cell) : flt a (c :: l) = if c.1 = a then c :: flt a l else flt a l := by
 by_cases h : c.1 = a <;> simp [flt, h]
theorem Zdk (c : Cell) (l : List Cell) (a : Int) : getX (c :: l) a = if c.1 = a ∧ flt a l = [] then c.2 else getX l a := by
 simp only [getX, Zi5]
 by_cases h : c.1 = a
 ·simp only [h, if_true, true_and]
  cases hf : flt a l with
  | nil => simp
  | cons x r => simp [List.getLast?_cons_cons]
 ·simp [h]
theorem Vld.flt {m : List Cell} (h : Vld m) (a : Int) : Cells.flt a m = if getX m a = 0 then [] else [(a, getX m a)] := by
 induction m with
 | nil => simp [Cells.flt, Zzd]
 | cons c m ih =>
  have ih := ih h.tail
  have h1 := List.pairwise_cons.1 h.1
  by_cases hc : c.1 = a
  ·have hn : Cells.flt a m = [] := ZdG fun x hx => by have := h1.1 x hx; omega
   have hz := h.2 c (by simp)
   rw [Zi5, Zdk]
   simp only [hc, hn, and_self, if_true, hz, if_false]
   rw [← hc]
  ·rw [Zi5, Zdk]
   simp only [hc, false_and, if_false, ih]
theorem ZKN {m m' : List Cell} (h : Vld m) (h' : Vld m') (e : ∀ a, getX m a = getX m' a) : m = m' :=
 uniq h.srt h'.srt fun k => by rw [h.flt, h'.flt, e k]
def dd : List Cell → List Cell
 | [] => []
 | x :: r => match r with
  | [] => if x.2 = 0 then [] else [x]
  | y :: _ => if x.1 = y.1 then dd r else if x.2 = 0 then dd r else x :: dd r
theorem Znv : ∀ {l : List Cell} {c : Cell}, c ∈ dd l → c ∈ l ∧ c.2 ≠ 0
 | [], c, h => by simp [dd] at h
 | [x], c, h => by
  simp only [dd] at h
  split at h
  ·simp at h
  ·rename_i hz; simp at h; subst h; exact ⟨by simp, hz⟩
 | x :: y :: r, c, h => by
  rw [dd] at h
  split at h
  ·have := Znv h; exact ⟨List.mem_cons_of_mem _ this.1, this.2⟩
  ·split at h
   ·have := Znv h; exact ⟨List.mem_cons_of_mem _ this.1, this.2⟩
   ·rename_i hz
    rcases List.mem_cons.1 h with e | e
    ·subst e; exact ⟨by simp, hz⟩
    ·have := Znv e; exact ⟨List.mem_cons_of_mem _ this.1, this.2⟩
theorem ZKF : ∀ {l : List Cell}, Srt l → Vld (dd l)
 | [], _ => ⟨List.Pairwise.nil, fun c h => by simp [dd] at h⟩
 | [x], _ => by
  refine ⟨?_, fun c h => (Znv h).2⟩
  simp only [dd]; split <;> simp
 | x :: y :: r, h => by
  have h1 := List.pairwise_cons.1 h
  have ih := ZKF (l := y :: r) h1.2
  have h2 := List.pairwise_cons.1 h1.2
  rw [dd]
  split
  ·exact ih
  ·rename_i hne
   split
   ·exact ih
   ·rename_i hz
    refine ⟨List.pairwise_cons.2 ⟨fun c hc => ?_, ih.1⟩, fun c hc => ?_⟩
    ·have hxy := h1.1 y (by simp)
     rcases List.mem_cons.1 (Znv hc).1 with e | e
     ·rw [e]; omega
     ·have := h2.1 c e; omega
    ·rcases List.mem_cons.1 hc with e | e
     ·rw [e]; exact hz
     ·exact ih.2 c e
theorem ZKG : ∀ {l : List Cell}, Srt l → ∀ a, getX (dd l) a = getX l a
 | [], _, _ => rfl
 | [x], _, a => by
  simp only [dd]
  split
  ·rename_i hz; rw [Zdk]; simp [flt, getX, hz]
  ·rfl
 | x :: y :: r, h, a => by
  have h1 := List.pairwise_cons.1 h
  have ih := ZKG (l := y :: r) h1.2 a
  have h2 := List.pairwise_cons.1 h1.2
  rw [dd, Zdk x (y :: r)]
  by_cases hxy : x.1 = y.1
  ·rw [if_pos hxy, ih]
   by_cases hc : x.1 = a ∧ flt a (y :: r) = []
   ·obtain ⟨e, e2⟩ := hc
    rw [Zi5, if_pos (by rw [← hxy]; exact e)] at e2; simp at e2
   ·rw [if_neg hc]
  ·rw [if_neg hxy]
   have hlt : ∀ c ∈ y :: r, x.1 < c.1 := fun c hc => by
    have := h1.1 y (by simp)
    rcases List.mem_cons.1 hc with e | e
    ·rw [e]; omega
    ·have := h2.1 c e; omega
   by_cases hc : x.1 = a
   ·have hn : flt a (y :: r) = [] := ZdG fun c hc' => by have := hlt c hc'; omega
    have hn2 : flt a (dd (y :: r)) = [] := ZdG fun c hc' => by have := hlt c (Znv hc').1; omega
    by_cases hz : x.2 = 0
    ·rw [if_pos hz, if_pos ⟨hc, hn⟩, hz, getX, hn2]; rfl
    ·rw [if_neg hz, if_pos ⟨hc, hn⟩, Zdk, if_pos ⟨hc, hn2⟩]
   ·by_cases hz : x.2 = 0
    ·rw [if_pos hz, if_neg (fun h => hc h.1), ih]
    ·rw [if_neg hz, if_neg (fun h => hc h.1), Zdk, if_neg (fun h => hc h.1), ih]
def putX : List Cell → Cell → List Cell
 | [], c => if c.2 = 0 then [] else [c]
 | x :: r, c => if x.1 < c.1 then x :: putX r c else if c.2 = 0 then (if x.1 = c.1 then r else x :: r) else if x.1 = c.1 then c :: r else c :: x :: r
theorem Zpg : ∀ {m : List Cell} {c x : Cell}, x ∈ putX m c → x = c ∨ x ∈ m
 | [], c, x, h => by
  simp only [putX] at h
  split at h
  ·simp at h
  ·left; simpa using h
 | y :: r, c, x, h => by
  simp only [putX] at h
  split at h
  ·rcases List.mem_cons.1 h with e | e
   ·right; simp [e]
   ·rcases Zpg e with e | e
    ·exact .inl e
    ·right; simp [e]
  ·split at h
   ·split at h
    ·right; simp [h]
    ·right; exact h
   ·split at h
    ·rcases List.mem_cons.1 h with e | e
     ·exact .inl e
     ·right; simp [e]
    ·rcases List.mem_cons.1 h with e | e
     ·exact .inl e
     ·right; exact e
theorem Zyb : ∀ {m : List Cell} {c : Cell}, Vld m → Vld (putX m c)
 | [], c, _ => by
  simp only [putX]
  split
  ·exact ⟨List.Pairwise.nil, fun c h => by simp at h⟩
  ·rename_i hz; exact ⟨by simp, fun x h => by simp at h; rw [h]; exact hz⟩
 | y :: r, c, h => by
  have h1 := List.pairwise_cons.1 h.1
  have hy := h.2 y (by simp)
  simp only [putX]
  split
  ·rename_i hlt
   have ih := Zyb (c := c) h.tail
   refine ⟨List.pairwise_cons.2 ⟨fun x hx => ?_, ih.1⟩, fun x hx => ?_⟩
   ·rcases Zpg hx with e | e
    ·rw [e]; exact hlt
    ·exact h1.1 x e
   ·rcases List.mem_cons.1 hx with e | e
    ·rw [e]; exact hy
    ·exact ih.2 x e
  ·rename_i hge
   split
   ·split
    ·exact h.tail
    ·exact h
   ·rename_i hz
    split
    ·rename_i he
     refine ⟨List.pairwise_cons.2 ⟨fun x hx => ?_, h1.2⟩, fun x hx => ?_⟩
     ·have := h1.1 x hx; omega
     ·rcases List.mem_cons.1 hx with e | e
      ·rw [e]; exact hz
      ·exact h.2 x (List.mem_cons_of_mem _ e)
    ·rename_i hne
     refine ⟨List.pairwise_cons.2 ⟨fun x hx => ?_, h.1⟩, fun x hx => ?_⟩
     ·rcases List.mem_cons.1 hx with e | e
      ·rw [e]; omega
      ·have := h1.1 x e; omega
     ·rcases List.mem_cons.1 hx with e | e
      ·rw [e]; exact hz
      ·exact h.2 x e
theorem Zzc {l : List Cell} {a : Int} (h : ∀ c ∈ l, c.1 ≠ a) : getX l a = 0 := by rw [getX, ZdG h]; rfl
theorem Zc4 {x : Cell} {r : List Cell} (h : ∀ c ∈ r, x.1 < c.1) (a : Int) : getX (x :: r) a = if x.1 = a then x.2 else getX r a := by
 rw [Zdk]
 by_cases hx : x.1 = a
 ·have : flt a r = [] := ZdG fun c hc => by have := h c hc; omega
  simp [hx, this]
 ·simp [hx]
theorem Zyc : ∀ {m : List Cell} {c : Cell}, Vld m → ∀ a, getX (putX m c) a = if c.1 = a then c.2 else getX m a
 | [], c, _, a => by
  simp only [putX]
  split
  ·rename_i hz; rw [Zzd, hz]; simp
  ·rw [Zc4 (by simp)]
 | y :: r, c, h, a => by
  have h1 := List.pairwise_cons.1 h.1
  simp only [putX]
  split
  ·rename_i hlt
   rw [Zc4 (fun x hx => by
    rcases Zpg hx with e | e
    ·rw [e]; exact hlt
    ·exact h1.1 x e), Zc4 h1.1, Zyc h.tail a]
   by_cases e1 : y.1 = a
   ·simp only [e1, if_true]; rw [if_neg (by omega)]
   ·simp [e1]
  ·rename_i hge
   split
   ·rename_i hz
    split
    ·rename_i he
     rw [Zc4 h1.1]
     by_cases e : c.1 = a
     ·rw [if_pos e, hz]
      exact Zzc fun x hx => by have := h1.1 x hx; omega
     ·rw [if_neg e, if_neg (by omega)]
    ·rename_i hne
     by_cases e : c.1 = a
     ·rw [if_pos e, hz]
      exact Zzc fun x hx => by
       rcases List.mem_cons.1 hx with e' | e'
       ·rw [e']; omega
       ·have := h1.1 x e'; omega
     ·rw [if_neg e]
   ·split
    ·rename_i he
     rw [Zc4 (fun x hx => by have := h1.1 x hx; omega), Zc4 h1.1]
     by_cases e : c.1 = a
     ·simp [e]
     ·rw [if_neg e, if_neg e, if_neg (by omega)]
    ·rename_i hne
     rw [Zc4 (fun x hx => by
      rcases List.mem_cons.1 hx with e | e
      ·rw [e]; omega
      ·have := h1.1 x e; omega)]
def normX (l : List Cell) : List Cell := l.foldl putX []
theorem ZGz (l : List Cell) (c : Cell) (a : Int) : getX (l ++ [c]) a = if c.1 = a then c.2 else getX l a := by
 rw [getX, getX, ZdH]
 by_cases h : c.1 = a
 ·have : flt a [c] = [c] := by simp [flt, h]
  rw [this, List.getLast?_append]; simp [h]
 ·have : flt a [c] = [] := ZdG fun x hx => by simp at hx; rw [hx]; exact h
  rw [this]; simp [h]
theorem ZlV : ∀ (l : List Cell) {m : List Cell}, Vld m → Vld (l.foldl putX m) ∧ ∀ a, getX (l.foldl putX m) a = getX (m ++ l) a
 | [], m, h => ⟨h, fun a => by simp⟩
 | c :: l, m, h => by
  obtain ⟨h1, h2⟩ := ZlV l (Zyb (c := c) h)
  refine ⟨h1, fun a => ?_⟩
  rw [List.foldl_cons, h2 a]
  have e : m ++ c :: l = (m ++ [c]) ++ l := by simp
  rw [e]
  have key : ∀ {p q : List Cell}, (∀ b, getX p b = getX q b) → ∀ l b, getX (p ++ l) b = getX (q ++ l) b := by
   intro p q hpq l b
   simp only [getX, ZdH, List.getLast?_append]
   cases hl : (flt b l).getLast? with
   | none => simpa [getX] using hpq b
   | some x => simp
  exact key (fun b => by rw [Zyc h, ZGz]) l a
theorem ZFP (l : List Cell) : Vld (normX l) := (ZlV l ⟨List.Pairwise.nil, fun c h => by simp at h⟩).1
theorem ZFQ (l : List Cell) (a : Int) : getX (normX l) a = getX l a := (ZlV l ⟨List.Pairwise.nil, fun c h => by simp at h⟩).2 a
theorem ZyQ {l m : List Cell} (h : Vld m) (e : ∀ a, getX m a = getX l a) : normX l = m := ZKN (ZFP l) h fun a => by rw [ZFQ, e]
theorem ZBL {m : List Cell} (h : Vld m) : normX m = m := ZyQ h fun _ => rfl
theorem ZBJ (l : List Cell) : dd (isort l) = normX l :=
 (ZyQ (ZKF (Zbk l)) fun a => by rw [ZKG (Zbk l), ZB0 (Zef l)]).symm
end Go.Proofs.Cells
open Go Go.S3 Go.Proofs Go.Proofs.Cells
namespace Go.Proofs.YtghoimllhpjkjaaGreat
noncomputable section
abbrev ZbB := QT8
theorem Zw1 (l : List Cell) (i : Nat) (h : i < l.length) : l.drop i = el l i :: l.drop (i + 1) := by
 rw [List.drop_eq_getElem_cons h]
 have := ZcA l i h
 rw [List.getElem?_eq_getElem h, oinj] at this
 rw [this]
theorem ZN5 (l : List Cell) (i : Nat) (h : i < l.length) : el l i ∈ l := List.mem_iff_getElem?.2 ⟨i, ZcA l i h⟩
def okAt (m : List Cell) (i : Nat) : Bool := !((el m i).2 == 0 || (decide ((i : Int) > 0) && decide ((el m i).1 ≤ (el m (i - 1)).1)))
def vldB (m : List Cell) : Bool := (List.range m.length).all (okAt m)
theorem ZzB {m : List Cell} {i : Nat} (hi : i < m.length) (h : okAt m i = false) : vldB m = false := by
 rw [Bool.eq_false_iff]; intro he
 have := List.all_eq_true.1 he i (List.mem_range.2 hi)
 rw [h] at this; exact absurd this (by simp)
theorem Zrq {m : List Cell} (h : ∀ i, i < m.length → okAt m i = true) : vldB m = true := List.all_eq_true.2 fun i hi => h i (List.mem_range.1 hi)
theorem ZHj {m : List Cell} : vldB m = true ↔ Vld m := by
 constructor
 ·intro h
  have ha : ∀ i, i < m.length → okAt m i = true := fun i hi => List.all_eq_true.1 h i (List.mem_range.2 hi)
  have hs : ∀ i, i + 1 < m.length → (el m i).1 < (el m (i + 1)).1 := fun i hi => by
   have := ha (i + 1) hi
   simp only [okAt, Bool.not_eq_true', Bool.or_eq_false_iff, Bool.and_eq_false_iff, decide_eq_false_iff_not, Nat.add_sub_cancel] at this
   rcases this.2 with e | e
   ·omega
   ·omega
  refine ⟨?_, fun c hc => ?_⟩
  ·rw [List.pairwise_iff_getElem]
   have key : ∀ d i, i + d + 1 < m.length → (el m i).1 < (el m (i + d + 1)).1 := by
    intro d
    induction d with
    | zero => intro i hi; exact hs i hi
    | succ d ih => intro i hi; have h1 := ih i (by omega); have h2 := hs (i + d + 1) (by omega); rw [show i + (d + 1) + 1 = i + d + 1 + 1 by omega]; omega
   intro i j hi hj hij
   have := key (j - i - 1) i (by omega)
   rw [show i + (j - i - 1) + 1 = j by omega] at this
   have e1 := ZcA m i hi
   have e2 := ZcA m j hj
   rw [List.getElem?_eq_getElem hi, oinj] at e1
   rw [List.getElem?_eq_getElem hj, oinj] at e2
   rw [e1, e2]; exact this
  ·obtain ⟨i, hi⟩ := List.mem_iff_getElem?.1 hc
   have hlt := (List.getElem?_eq_some_iff.1 hi).1
   rw [ZcA m i hlt, oinj] at hi
   have := ha i hlt
   rw [← hi]
   simp only [okAt, Bool.not_eq_true', Bool.or_eq_false_iff, beq_eq_false_iff_ne] at this
   exact this.1
 ·intro h
  refine Zrq fun i hi => ?_
  simp only [okAt, Bool.not_eq_true', Bool.or_eq_false_iff, beq_eq_false_iff_ne, Bool.and_eq_false_iff, decide_eq_false_iff_not]
  refine ⟨h.2 _ (ZN5 m i hi), ?_⟩
  by_cases h0 : i = 0
  ·left; omega
  ·right
   have := List.pairwise_iff_getElem.1 h.1 (i - 1) i (by omega) hi (by omega)
   have e1 := ZcA m (i - 1) (by omega)
   have e2 := ZcA m i hi
   rw [List.getElem?_eq_getElem (by omega), oinj] at e1
   rw [List.getElem?_eq_getElem hi, oinj] at e2
   rw [e1, e2] at this; omega
theorem wsub1 (i : Nat) (h : 0 < i) (h2 : i ≤ 4611686018427387904) : IntKind.wrap .i64 ((i : Int) - 1) = ((i - 1 : Nat) : Int) := by rw [wrap_i64 _ (by omega) (by omega)]; omega
theorem ZMr (m : List Cell) (i : Nat) : ((el m i).2 == 0 || (decide ((i : Int) > 0) && decide ((el m i).1 ≤ (el m (i - 1)).1))) = !okAt m i := by simp only [okAt, Bool.not_not]
theorem ZBO (m : List Cell) (hm : m.length ≤ most) : (ZhH m).val = some (vldB m) := by
 have hms := mst
 obtain ⟨r, hr, hR⟩ := Zag (fl := true) (t := Zdf) (fuel := fun a => 1000000000000)
  (I := fun a => ∃ i : Nat, i ≤ m.length ∧ (∀ k, k < i → okAt m k = true) ∧ a = (m, false, m, (m.length : Int), (i : Int), ()))
  (m := fun a => Int.toNat (a.2.2.2.1 - a.2.2.2.2.1)) (R := fun r => (r.1 = false ∧ vldB m = true) ∨ (r.1 = true ∧ vldB m = false ∧ r.2.2.1 = false))
  (fun a hi => by
   obtain ⟨i, hi, hk, rfl⟩ := hi
   by_cases hlt : i < m.length
   ·have d : decide ((i : Int) < (m.length : Int)) = true := by simpa using hlt
    have r1 := Zbg m i hlt
    have hw : decide ((i : Int) > 0) = true → Zf (IntKind.wrap .i64 ((i : Int) - 1)) m.length = true ∧ IntKind.wrap .i64 ((i : Int) - 1) = ((i - 1 : Nat) : Int) := fun h => by
     simp only [decide_eq_true_eq] at h
     have e := wsub1 i (by omega) (by omega)
     exact ⟨by rw [e]; exact Zbg m (i - 1) (by omega), e⟩
    have hck : ((el m i).2 == 0 || (!decide ((i : Int) > 0) || Zf (IntKind.wrap .i64 ((i : Int) - 1)) m.length)) = true := by
     cases h : decide ((i : Int) > 0) with
     | false => simp
     | true => rw [(hw h).1]; simp
    have hcd : ((el m i).2 == 0 || (decide ((i : Int) > 0) && decide ((el m i).1 ≤ (R.get CR m (IntKind.wrap .i64 ((i : Int) - 1))).1))) = !okAt m i := by
     rw [← ZMr]
     cases h : decide ((i : Int) > 0) with
     | false => simp
     | true => rw [(hw h).2, ZdZ]
    cases ho : okAt m i with
    | true =>
     left
     refine ⟨(m, false, m, (m.length : Int), ((i + 1 : Nat) : Int), ()), ?_, ⟨i + 1, hlt, fun k hk' => ?_, rfl⟩, by simp only; omega⟩
     ·rw [ho] at hcd
      simp only [Zdf, RT.val, d, r1, ZdZ, hck, hcd, Bool.not_true, Bool.false_or, cond_true, cond_false, ZnF i (by omega)]
     ·by_cases e : k = i
      ·subst e; exact ho
      ·exact hk k (by omega)
    | false =>
     right; right
     refine ⟨(m, false, m, (m.length : Int), (i : Int), ()), rfl, ?_, .inr ⟨rfl, ZzB hlt ho, rfl⟩⟩
     rw [ho] at hcd
     simp only [Zdf, RT.val, d, r1, ZdZ, hck, hcd, Bool.not_true, Bool.not_false, Bool.false_or, cond_true, cond_false]
   ·right; left
    have d : decide ((i : Int) < (m.length : Int)) = false := by simpa using hlt
    exact ⟨(m, false, m, (m.length : Int), (i : Int), ()), by simp only [Zdf, RT.val, d, cond_false], .inl ⟨rfl, Zrq fun k hk' => hk k (by omega)⟩⟩)
  (m, false, m, (m.length : Int), 0, ()) ⟨0, Nat.zero_le _, fun k h => by omega, rfl⟩ (by simp only; omega)
 have hr' : runF true Zdf (fun a => 1000000000000) (m, false, m, iN m.length, 0, ()) = some r := hr
 rcases hR with ⟨h1, h2⟩ | ⟨h1, h2, h3⟩
 ·simp only [ZhH, RT.val, hr', okB, getO, cond_true, h1, cond_false, h2]
 ·simp only [ZhH, RT.val, hr', okB, getO, cond_true, h1, h2, h3]
theorem ZBK (l : List Cell) (c : Cell) : normX (l ++ [c]) = putX (normX l) c := by simp [normX, List.foldl_append]
def ZwR (s : List Cell) (i : Nat) : Bool := (el s i).2 != 0 && (decide (i + 1 = s.length) || (el s (i + 1)).1 != (el s i).1)
theorem ZMS (s : List Cell) (i : Nat) (h : i < s.length) : dd (s.drop i) = (bif ZwR s i then [el s i] else []) ++ dd (s.drop (i + 1)) := by
 rw [Zw1 s i h]
 by_cases hl : i + 1 < s.length
 ·rw [Zw1 s (i + 1) hl, dd]
  have e : decide (i + 1 = s.length) = false := by simp; omega
  simp only [ZwR, e, Bool.false_or]
  by_cases h1 : (el s i).1 = (el s (i + 1)).1
  ·have : ((el s (i + 1)).1 != (el s i).1) = false := by simp [h1]
   simp only [this, Bool.and_false, cond_false, List.nil_append, if_pos h1]
  ·have : ((el s (i + 1)).1 != (el s i).1) = true := by simpa using fun e => h1 e.symm
   simp only [this, Bool.and_true, if_neg h1]
   by_cases h2 : (el s i).2 = 0
   ·have : ((el s i).2 != 0) = false := by simp [h2]
    simp only [this, if_pos h2, cond_false, List.nil_append]
   ·have : ((el s i).2 != 0) = true := by simpa using h2
    simp only [this, if_neg h2, cond_true, List.singleton_append]
 ·have hn : s.drop (i + 1) = [] := List.drop_eq_nil_of_le (by omega)
  have e : decide (i + 1 = s.length) = true := by simp; omega
  rw [hn]
  simp only [ZwR, e, Bool.true_or, Bool.and_true, dd, List.append_nil]
  by_cases h2 : (el s i).2 = 0
  ·have : ((el s i).2 != 0) = false := by simp [h2]
   simp only [this, if_pos h2, cond_false]
  ·have : ((el s i).2 != 0) = true := by simpa using h2
   simp only [this, if_neg h2, cond_true]
theorem ZCl (l : List Cell) (hl : l.length ≤ most) : Zxo l = true ∧ ZtF l = isort l := by
 have hs : Zjl l (iN l.length) = true := by simp [Zjl, iN]; omega
 have hv : (Zry l).val = some (isort l) := by
  simp only [Zry, RT.val, ZcB, hs, cond_true]
 exact ⟨by simp only [Zxo, hv]; rfl, by simp only [ZtF, hv, getO]⟩
theorem Zls (l : List Cell) (hl : l.length ≤ most) : ZsU l = true ∧ ZGi l = normX l := by
 have hms := mst
 have h1 := ZCl l hl
 have hlen := Zdi l
 generalize hs : isort l = s at hlen h1
 obtain ⟨r, hr, h2, i, hR⟩ := Zag (fl := false) (t := ZgS) (fuel := fun a => Int.toNat (a.1 - a.2.1) + 1)
  (fun a => ∃ (i : Nat) (o : List Cell), i ≤ s.length ∧ o.length ≤ i ∧ o ++ dd (s.drop i) = dd s ∧ a = ((s.length : Int), (i : Int), s, o, ()))
  (fun a => Int.toNat (a.1 - a.2.1)) (fun r => r.1 = false ∧ ∃ i : Nat, r.2 = ((s.length : Int), (i : Int), s, dd s, ()))
  (by
   rintro a ⟨i, o, hi, ho, hd, rfl⟩
   by_cases hlt : i < s.length
   ·left
    have d : decide ((i : Int) < (s.length : Int)) = true := by simpa using hlt
    have r1 := Zbg s i hlt
    have w := ZnF i (by omega)
    have e1 : (((i + 1 : Nat) : Int) == iN s.length) = decide (i + 1 = s.length) := by
     rw [Bool.eq_iff_iff]; simp [iN]; omega
    have hst := ZMS s i hlt
    have hle : ∀ x : Cell, Nat.ble (o ++ [x]).length most = true := fun x => by rw [Nat.ble_eq]; simp only [List.length_append, List.length_singleton]; omega
    refine ⟨((s.length : Int), ((i + 1 : Nat) : Int), s, o ++ (bif ZwR s i then [el s i] else []), ()), ?_, ⟨i + 1, _, hlt, ?_, ?_, rfl⟩, by simp only; omega⟩
    ·have e3 : (!((el s i).2 != 0) || (decide (i + 1 = s.length) || Zf ((i + 1 : Nat) : Int) s.length)) = true := by
      by_cases hq : i + 1 = s.length
      ·simp [hq]
      ·rw [Zbg s (i + 1) (by omega)]; simp
     have e4 : ((el s i).2 != 0 && (decide (i + 1 = s.length) || (el s (i + 1)).1 != (el s i).1)) = ZwR s i := rfl
     have g1 := ZdZ s i
     have g2 := ZdZ s (i + 1)
     simp only [ZgS, RT.val, d, r1, w, g1, g2, e1, e3, e4, hle, cond_true, Bool.not_true, Bool.false_or, Bool.or_true]
     cases ZwR s i <;> simp
    ·cases ZwR s i <;> simp only [cond_true, cond_false, List.append_nil, List.length_append, List.length_singleton] <;> omega
    ·rw [List.append_assoc, ← hst, hd]
   ·right; left
    have d : decide ((i : Int) < (s.length : Int)) = false := by simpa using hlt
    have e : s.drop i = [] := List.drop_eq_nil_of_le (by omega)
    rw [e] at hd
    simp only [dd, List.append_nil] at hd
    subst hd
    exact ⟨_, by simp only [ZgS, RT.val, d, cond_false], rfl, i, rfl⟩)
  (iN s.length, 0, s, [], ()) ⟨0, [], Nat.zero_le _, by simp, by simp, rfl⟩ (by simp only [iN]; omega)
 obtain ⟨r1, r2⟩ := r
 simp only at h2 hR
 subst h2 hR
 have hb : Nat.ble l.length most = true := by rw [Nat.ble_eq]; exact hl
 have hv : (ZsT l).val = some (normX l) := by
  simp only [ZsT, RT.val, hb, h1.1, h1.2, hr, okB, getO, cond_true]
  rw [← hs, ZBJ]
 exact ⟨by simp only [ZsU, hv]; rfl, by simp only [ZGi, hv, getO]⟩
theorem ZC9 (a b : List Cell) (ha : a.length ≤ most) : Zt4 a b = true ∧ ZDk a b = decide (a = b) := by
 have hms := mst
 have hv : (ZfW a b).val = some (decide (a = b)) := by
  by_cases hl : a.length = b.length
  ·have hn : (iN a.length != iN b.length) = false := by simp [iN, hl]
   obtain ⟨r, hr, hR⟩ := Zag (fl := true) (t := ZdT) (fuel := fun _ => 1000000000000)
    (fun x => ∃ i : Nat, i ≤ a.length ∧ (∀ k, k < i → el a k = el b k) ∧ x = (a, b, false, (a.length : Int), (i : Int), ()))
    (fun x => Int.toNat (x.2.2.2.1 - x.2.2.2.2.1)) (fun r => (r.1 = false ∧ a = b) ∨ (r.1 = true ∧ a ≠ b ∧ r.2.2.2.1 = false))
    (by
     rintro x ⟨i, hi, hk, rfl⟩
     by_cases hlt : i < a.length
     ·have d : decide ((i : Int) < (a.length : Int)) = true := by simpa using hlt
      have r1 := Zbg a i hlt
      have r2 := Zbg b i (by omega)
      have g1 := ZdZ a i
      have g2 := ZdZ b i
      by_cases he : el a i = el b i
      ·left
       refine ⟨(a, b, false, (a.length : Int), ((i + 1 : Nat) : Int), ()), ?_, ⟨i + 1, hlt, fun k hk' => ?_, rfl⟩, by simp only; omega⟩
       ·simp only [ZdT, RT.val, d, r1, r2, g1, g2, he, beq_self_eq_true, Bool.and_self, Bool.not_true, Bool.or_true, cond_true, cond_false, ZnF i (by omega)]
       ·by_cases e : k = i
        ·subst e; exact he
        ·exact hk k (by omega)
      ·right; right
       have hne : ((el a i).1 == (el b i).1 && ((el a i).2 == (el b i).2 && true)) = false := by
        rw [Bool.eq_false_iff]; intro h
        simp only [Bool.and_eq_true, beq_iff_eq, and_true] at h
        exact he (Prod.ext h.1 h.2)
       refine ⟨(a, b, false, (a.length : Int), (i : Int), ()), rfl, ?_, .inr ⟨rfl, fun h => he (by rw [h]), rfl⟩⟩
       simp only [ZdT, RT.val, d, r1, r2, g1, g2, hne, Bool.not_true, Bool.not_false, Bool.or_true, cond_true]
     ·right; left
      have d : decide ((i : Int) < (a.length : Int)) = false := by simpa using hlt
      refine ⟨_, by simp only [ZdT, RT.val, d, cond_false]; rfl, .inl ⟨rfl, List.ext_getElem? fun k => ?_⟩⟩
      by_cases hk' : k < a.length
      ·rw [ZcA a k hk', ZcA b k (by omega), hk k (by omega)]
      ·rw [List.getElem?_eq_none (by omega), List.getElem?_eq_none (by omega)])
    (a, b, false, iN a.length, 0, ()) ⟨0, Nat.zero_le _, fun k h => by omega, rfl⟩ (by simp only [iN]; omega)
   rcases hR with ⟨h1, h2⟩ | ⟨h1, h2, h3⟩
   ·have hd : decide (a = b) = true := decide_eq_true h2
    simp only [ZfW, RT.val, hn, hr, okB, getO, cond_true, cond_false, h1, hd]
   ·have hd : decide (a = b) = false := decide_eq_false h2
    simp only [ZfW, RT.val, hn, hr, okB, getO, cond_true, cond_false, h1, h3, hd]
  ·have hn : (iN a.length != iN b.length) = true := by simp only [iN, bne_iff_ne, ne_eq]; omega
   have hne : a ≠ b := fun h => hl (by rw [h])
   simp only [ZfW, RT.val, hn, cond_true, hne, decide_false]
 exact ⟨by simp only [Zt4, hv]; rfl, by simp only [ZDk, hv, getO]⟩
theorem ZF4 (m : List Cell) (hm : m.length ≤ most) : ZqJ m = true ∧ Zlx m = vldB m := by
 have h := ZBO m hm
 exact ⟨by simp only [ZqJ, h]; rfl, by simp only [Zlx, h, getO]⟩
abbrev GR : R := R.pair (R.int u16) (R.pair (R.int u16) (R.pair R.bool (R.int i64)))
def hitB (t : Int) (r : ZbB) : Bool := decide (r.1 ≤ t) && decide (t ≤ r.2.1)
def Zdl (l : List ZbB) (t : Int) : Int := if l.findIdx (hitB t) < l.length then (l.findIdx (hitB t) : Int) else -1
def rg (l : List ZbB) (i : Nat) : ZbB := l.getD i (0, 0, false, 0)
theorem ZN4 (l : List ZbB) (i : Nat) : R.get GR l (i : Int) = rg l i := by simp [R.get, R.dflt, rg]
theorem ZDd (l : List ZbB) (i : Nat) (h : i < l.length) : l[i] = rg l i := by simp [rg, h]
theorem ZMN {l : List ZbB} {t : Int} {i : Nat} (hi : i < l.length) (h : hitB t (rg l i) = true) (hk : ∀ k, k < i → hitB t (rg l k) = false) : Zdl l t = i := by
 have : l.findIdx (hitB t) = i := (List.findIdx_eq hi).2 ⟨by rw [ZDd l i hi]; exact h, fun j hj => by rw [ZDd l j (by omega)]; exact hk j hj⟩
 simp only [Zdl, this, hi, if_true]
theorem ZMM {l : List ZbB} {t : Int} (hk : ∀ k, k < l.length → hitB t (rg l k) = false) : Zdl l t = -1 := by
 have : ¬ l.findIdx (hitB t) < l.length := by
  rw [List.findIdx_lt_length]
  rintro ⟨x, hx, hp⟩
  obtain ⟨i, hi, rfl⟩ := List.mem_iff_getElem.1 hx
  rw [ZDd l i hi, hk i hi] at hp
  exact absurd hp (by simp)
 simp only [Zdl, this, if_false]
theorem ZDe (l : List ZbB) (t : Int) (hl : l.length ≤ most) : ZDN l t = true ∧ ZLr l t = Zdl l t := by
 have hms := mst
 obtain ⟨r, hr, hR⟩ := Zag (fl := true) (t := Zgv) (fuel := fun _ => 1000000000000)
  (fun x => ∃ i : Nat, i ≤ l.length ∧ (∀ k, k < i → hitB t (rg l k) = false) ∧ x = (t, 0, l, (l.length : Int), (i : Int), ()))
  (fun x => Int.toNat (x.2.2.2.1 - x.2.2.2.2.1)) (fun r => (r.1 = false ∧ Zdl l t = -1) ∨ (r.1 = true ∧ r.2.2.1 = Zdl l t))
  (by
   rintro x ⟨i, hi, hk, rfl⟩
   by_cases hlt : i < l.length
   ·have d : decide ((i : Int) < (l.length : Int)) = true := by simpa using hlt
    have r1 := Zbg l i hlt
    have g1 := ZN4 l i
    cases hh : hitB t (rg l i) with
    | false =>
     left
     refine ⟨(t, 0, l, (l.length : Int), ((i + 1 : Nat) : Int), ()), ?_, ⟨i + 1, hlt, fun k hk' => ?_, rfl⟩, by simp only; omega⟩
     ·simp only [hitB] at hh
      simp only [Zgv, RT.val, d, r1, g1, hh, cond_true, cond_false, ZnF i (by omega)]
     ·by_cases e : k = i
      ·subst e; exact hh
      ·exact hk k (by omega)
    | true =>
     right; right
     refine ⟨(t, (i : Int), l, (l.length : Int), (i : Int), ()), rfl, ?_, .inr ⟨rfl, (ZMN hlt hh hk).symm⟩⟩
     simp only [hitB] at hh
     simp only [Zgv, RT.val, d, r1, g1, hh, cond_true]
   ·right; left
    have d : decide ((i : Int) < (l.length : Int)) = false := by simpa using hlt
    exact ⟨_, by simp only [Zgv, RT.val, d, cond_false]; rfl, .inl ⟨rfl, ZMM fun k h => hk k (by omega)⟩⟩)
  (t, 0, l, iN l.length, 0, ()) ⟨0, Nat.zero_le _, fun k h => by omega, rfl⟩ (by simp only [iN]; omega)
 have hv : (ZmY l t).val = some (Zdl l t) := by
  rcases hR with ⟨h1, h2⟩ | ⟨h1, h2⟩
  ·simp only [ZmY, RT.val, hr, okB, getO, cond_true, h1, cond_false, h2]
  ·simp only [ZmY, RT.val, hr, okB, getO, cond_true, h1, h2]
 exact ⟨by simp only [ZDN, hv]; rfl, by simp only [ZLr, hv, getO]⟩
theorem ZEr (l : List ZbB) (t : Int) (hl : l.length ≤ most) : ZFl l t = true ∧ ZA3 l t = Zdl l t := by
 have h := ZDe l t hl
 have e : ZyE l t = ZmY l t := rfl
 simp only [ZDN, ZLr, ← e] at h
 exact h
end
end Go.Proofs.YtghoimllhpjkjaaGreat
