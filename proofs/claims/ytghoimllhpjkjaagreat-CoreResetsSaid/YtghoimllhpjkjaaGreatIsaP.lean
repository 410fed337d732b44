/-
  The interpreter of instructions over a memory, as plain Lean functions. Conditions: none.
-/
import Derived.Test.YtghoimllhpjkjaaGreatS3D
import Derived.Test.YtghoimllhpjkjaaGreatProg
import Derived.Test.YtghoimllhpjkjaaGreatRunL
import Derived.Test.YtghoimllhpjkjaaGreatS3New
import Derived.Test.YtghoimllhpjkjaaGreatS3Stg
import Derived.Test.YtghoimllhpjkjaaGreatMake
import Derived.Test.YtghoimllhpjkjaaGreatMakeOk5
open Go.IntKind (u8 u16 i64)
set_option linter.unusedSimpArgs false
open Go Go.S3 Go.Proofs
set_option linter.unusedVariables false
set_option maxRecDepth 100000
namespace Go.Proofs.YtghoimllhpjkjaaGreat
noncomputable section
abbrev ZqB : R := R.pair (R.int u16) (R.int u8)
abbrev ZqC : Nat := 106
abbrev ZxY : List Sh := [Sh.one rcCE, Sh.agg (R.pair (R.int u16) (R.int u8))]
def ZO3 : LS := { n := 53, slots := [(3, .fix (A.loc 0 0)), (5, .tip 0), (6, .code (Sh.one R.bool)), (9, .code (Sh.one rcCE)), (10, .code (Sh.one (R.int i64))), (11, .code (Sh.one (R.int i64)))], boxes := [[.many (R.pair (R.int u16) (R.int u8))]], stgs := [⟨(R.pair (R.int u16) (R.int u8)), 106, false⟩] }
def ZCC (a : QT7) : RT (Option (Go1 (QT7))) :=
 let x1 : Int × Int := R.get (R.pair (R.int u16) (R.int u8)) a.2.1 a.2.2.2.1
 let x2 := x1.1
 let x3 := !a.1 && decide (x2 ≥ a.2.2.2.2.1.1)
 let x4 : List (Int × Int) := a.2.2.2.2.2.1 ++ [a.2.2.2.2.1]
 let x5 := !x3 || (!a.2.2.2.2.1.2 != 0 || Nat.ble (List.length x4) most)
 let x6 := x2 != a.2.2.2.2.1.1
 let x7 : List (Int × Int) := bif x3 then bif a.2.2.2.2.1.2 != 0 then x4 else a.2.2.2.2.2.1 else a.2.2.2.2.2.1
 let x8 : List (Int × Int) := x7 ++ [x1]
 .br (decide (a.2.2.2.1 < a.2.2.1)) (.br (!Zg a.2.2.2.1 (List.length a.2.1) || (!x5 || (!x6 || Nat.ble (List.length x8) most))) (.br (!Zg a.2.2.2.1 (List.length a.2.1) || x5) (.br (Zg a.2.2.2.1 (List.length a.2.1)) (.leaf (some (Go1.cont (x3 || a.1, a.2.1, a.2.2.1, i64.wrap (a.2.2.2.1 + 1), a.2.2.2.2.1, bif x6 then x8 else x7, PUnit.unit)))) (.leaf none)) (.leaf none)) (.leaf none)) (.leaf (some (Go1.brk (a.1, a.2.1, a.2.2.1, a.2.2.2.1, a.2.2.2.2.1, a.2.2.2.2.2.1, PUnit.unit))))
def ZCD : Ora := ZdV false ZO3 ZCC (fun a => 1000000000000)
theorem ZE8 : ZcS (envX Tryz.prog [] [] 511 8) (.block 0 (.loop (Zbc Tryz.f149.body 0))) ZCD :=
 Zaa (Zag (l := []) trivial [] 511 8) (ZO (by kernel_rfl)) (fun a => by kernel_rfl)
def ZCB (m : List (Int × Int)) (c : Int × Int) : RT (Option (List (Int × Int))) :=
 let x1 : QT7 := (false, m, iN (List.length m), 0, c, [], ())
 let x2 := runF false ZCC (fun a => 1000000000000) x1
 let x3 : QT7 := (getO (false, x1) x2).2
 let x4 := x3.2.2.2.2
 let x5 := x4.1
 let x6 := !x3.1 && x5.2 != 0
 let x7 := x4.2.1
 let x8 : List (Int × Int) := x7 ++ [x5]
 .br (okB x2) (.br (!x6 || Nat.ble (List.length x8) most) (.leaf (some (bif x6 then x8 else x7))) (.leaf none)) (.leaf none)
def ZO4 (m : List (Int × Int)) (c : Int × Int) : List (Int × Int) := getO [] (ZCB m c).val
def ZCF (m : List (Int × Int)) (c : Int × Int) : Bool := okB (ZCB m c).val
def ZCE : Entry := frzE (newE ZqB ZqC ZxY (fun a => some (ZCF a.1 a.2)) (fun a => ZO4 a.1 a.2))
theorem ZJG : Zc Tryz.prog 149 (newE ZqB ZqC ZxY (fun a => some (ZCF a.1 a.2)) (fun a => ZO4 a.1 a.2)) :=
 Zte (P := Tryz.prog) (n := 511) (k := 8) (l := []) (ol := [(0, ZCD)]) trivial Tryz.func149 rfl (by kernel_rfl) Tryz.call149 ⟨ZE8, trivial⟩ (r := ZqB) (T := ZqC) (ts := ZxY) (t := fun a => ZCB a.1 a.2) (fun a => by kernel_rfl)
theorem ZCA : Zc Tryz.prog 149 ZCE := ZEp ZJG
abbrev Zj8 : R := R.pair (R.int u16) (R.int u8)
abbrev Zj9 : Nat := 106
abbrev ZqJ : List Sh := [Sh.one rcCE]
def ZJ1 : LS := { n := 21, slots := [(3, .tip 0), (10, .code (Sh.one rcCE)), (11, .code (Sh.one (R.int i64))), (12, .code (Sh.one (R.int i64)))], boxes := [], stgs := [⟨(R.pair (R.int u16) (R.int u8)), 106, false⟩] }
def ZfA (a : List (Int × Int) × Int × Int × List (Int × Int) × PUnit) : RT (Option (Go1 (List (Int × Int) × Int × Int × List (Int × Int) × PUnit))) :=
 .br (decide (a.2.2.1 < a.2.1)) (.br (!Zg a.2.2.1 (List.length a.1) || ZCF a.2.2.2.1 (R.get (R.pair (R.int u16) (R.int u8)) a.1 a.2.2.1)) (.br (Zg a.2.2.1 (List.length a.1)) (.leaf (some (Go1.cont (a.1, a.2.1, i64.wrap (a.2.2.1 + 1), Stg.l (newG ZqB ZqC (ZO4 a.2.2.2.1 (R.get (R.pair (R.int u16) (R.int u8)) a.1 a.2.2.1))), PUnit.unit)))) (.leaf none)) (.leaf none)) (.leaf (some (Go1.brk (a.1, a.2.1, a.2.2.1, a.2.2.2.1, PUnit.unit))))
def Zvf : Ora := ZdV false ZJ1 ZfA (fun a => 1000000000000)
theorem Zx7 : ZcS (envX Tryz.prog [(44, Zhy), (149, ZCE)] [] 63 8) (.block 0 (.loop (Zbc Tryz.f92.body 0))) Zvf :=
 Zaa (Zag (l := [(44, Zhy), (149, ZCE)]) ⟨ZiA, ZCA, trivial⟩ [] 63 8) (ZO (by kernel_rfl)) (fun a => by kernel_rfl)
def ZiC (l : List (Int × Int)) : RT (Option (List (Int × Int))) :=
 let x1 := runF false ZfA (fun a => 1000000000000) (l, iN (List.length l), 0, [], ())
 .br (smC l) (.br (!vldB l || Nat.ble (List.length ([] ++ l)) most) (.br (vldB l) (.leaf (some ([] ++ l))) (.br (okB x1) (.leaf (some (getO (false, l, iN (List.length l), 0, [], ()) x1).2.2.2.2.1)) (.leaf none))) (.leaf none)) (.leaf none)
def Zvg (l : List (Int × Int)) : List (Int × Int) := getO [] (ZiC l).val
def Zk8 (l : List (Int × Int)) : Bool := okB (ZiC l).val
def ZqK : Entry := frzE (newE Zj8 Zj9 ZqJ (fun a => some (Zk8 a)) (fun a => Zvg a))
theorem ZFb : Zc Tryz.prog 92 (newE Zj8 Zj9 ZqJ (fun a => some (Zk8 a)) (fun a => Zvg a)) :=
 Zte (P := Tryz.prog) (n := 63) (k := 8) (l := [(44, Zhy), (149, ZCE)]) (ol := [(0, Zvf)]) ⟨ZiA, ZCA, trivial⟩ Tryz.func92 rfl (by kernel_rfl) Tryz.call92 ⟨Zx7, trivial⟩ (r := Zj8) (T := Zj9) (ts := ZqJ) (t := fun a => ZiC a) (fun a => by kernel_rfl)
theorem Zve : Zc Tryz.prog 92 ZqK := ZEp ZFb
abbrev Zgf : R := R.pair (R.int u16) (R.int u8)
abbrev Zgg : Nat := 106
abbrev ZqV : List Sh := [Sh.one (R.int u16), Sh.one (R.sl (R.int u8))]
def ZJ7 : LS := { n := 27, slots := [(0, .code (Sh.one (R.int u16))), (1, .code (Sh.one (R.sl (R.int u8)))), (5, .tip 0), (8, .code (Sh.one (R.int i64))), (9, .code (Sh.one (R.int i64)))], boxes := [], stgs := [⟨(R.pair (R.int u16) (R.int u8)), 106, true⟩] }
def ZfB (a : QT25) : RT (Option (Go1 (QT25))) :=
 let x1 : List (Int × Int) := a.2.2.2.2.1 ++ [(u16.wrap (a.1 + u16.wrap a.2.2.2.1), R.get (R.int u8) a.2.1 a.2.2.2.1)]
 let x2 := !Zg a.2.2.2.1 (List.length a.2.1) || Nat.ble (List.length x1) most
 .br (decide (a.2.2.2.1 < a.2.2.1)) (.br (!x2 || Zg a.2.2.2.1 (List.length a.2.1)) (.br (x2) (.leaf (some (Go1.cont (a.1, a.2.1, a.2.2.1, i64.wrap (a.2.2.2.1 + 1), x1, PUnit.unit)))) (.leaf none)) (.leaf none)) (.leaf (some (Go1.brk (a.1, a.2.1, a.2.2.1, a.2.2.2.1, a.2.2.2.2.1, PUnit.unit))))
def Zvh : Ora := ZdV false ZJ7 ZfB (fun a => 1000000000000)
theorem ZyK : ZcS (envX Tryz.prog [(92, ZqK)] [] 127 8) (.block 0 (.loop (Zbc Tryz.f32.body 0))) Zvh :=
 Zaa (Zag (l := [(92, ZqK)]) ⟨Zve, trivial⟩ [] 127 8) (ZO (by kernel_rfl)) (fun a => by kernel_rfl)
def ZlO (t : Int) (b : List Int) : RT (Option (List (Int × Int))) :=
 let x1 := runF false ZfB (fun a => 1000000000000) (t, b, iN (List.length b), 0, [], ())
 let x2 : List (Int × Int) := (getO (false, t, b, iN (List.length b), 0, [], ()) x1).2.2.2.2.2.1
 .br (okB x1) (.br (Zk8 x2) (.leaf (some (Stg.l (newG Zj8 Zj9 (Zvg x2))))) (.leaf none)) (.leaf none)
def ZJ8 (t : Int) (b : List Int) : List (Int × Int) := getO [] (ZlO t b).val
def ZyL (t : Int) (b : List Int) : Bool := okB (ZlO t b).val
theorem ZFo : Zc Tryz.prog 32 (newE Zgf Zgg ZqV (fun a => some (ZyL a.1 a.2)) (fun a => ZJ8 a.1 a.2)) :=
 Zte (P := Tryz.prog) (n := 127) (k := 8) (l := [(92, ZqK)]) (ol := [(0, Zvh)]) ⟨Zve, trivial⟩ Tryz.func32 rfl (by kernel_rfl) Tryz.call32 ⟨ZyK, trivial⟩ (r := Zgf) (T := Zgg) (ts := ZqV) (t := fun a => ZlO a.1 a.2) (fun a => by kernel_rfl)
end
end Go.Proofs.YtghoimllhpjkjaaGreat
open Go Go.S3 Go.Proofs Go.Proofs.Cells
namespace Go.Proofs.YtghoimllhpjkjaaGreat
noncomputable section
theorem ZJd (m : List Cell) (c : Cell) (hv : Vld m) (hm : m.length + 1 ≤ most) : ZCF m c = true ∧ ZO4 m c = putX m c := by
 have h := ZkM m c hv hm
 have e : ZCB m c = ZoW m c := rfl
 simp only [ZoX, ZFa, ← e] at h
 exact h
theorem ZEU (l : List Cell) (hl : l.length + 1 ≤ most) : Zk8 l = true ∧ Zvg l = normX l := by
 have hms := mst
 have hs : smC l = true := (ZuB.2 hl : sm l = true)
 have hv : (ZiC l).val = some (normX l) := by
  cases hb : vldB l with
  | true =>
   have e : Nat.ble l.length most = true := by rw [Nat.ble_eq]; omega
   simp only [ZiC, RT.val, hs, hb, List.nil_append, e, cond_true, Bool.not_true, Bool.false_or, Zpv (ZBM.1 hb)]
  | false =>
   obtain ⟨r, hr, h1, i, hR⟩ := Zax (fl := false) (t := ZfA) (fuel := fun a => 1000000000000)
    (fun a => ∃ i : Nat, i ≤ l.length ∧ a = (l, (l.length : Int), (i : Int), normX (l.take i), ()))
    (fun a => Int.toNat (a.2.1 - a.2.2.1)) (fun r => r.1 = false ∧ ∃ i : Nat, r.2 = (l, (l.length : Int), (i : Int), normX l, ()))
    (by
     rintro a ⟨i, hi, rfl⟩
     by_cases hlt : i < l.length
     ·left
      have d : decide ((i : Int) < (l.length : Int)) = true := by simpa using hlt
      have r1 := Zec l i hlt
      have hlen := ZdJ (l.take i)
      rw [List.length_take] at hlen
      have hp := ZJd (normX (l.take i)) (el l i) (Zh1 _) (by omega)
      refine ⟨_, ?_, ⟨i + 1, hlt, rfl⟩, by simp only; omega⟩
      rw [Zxt l i hlt, Zpu]
      simp only [ZfA, RT.val, d, r1, ZjB, hp.1, hp.2, cond_true, Bool.or_true, Zxc i (by omega)]
     ·right; left
      have d : decide ((i : Int) < (l.length : Int)) = false := by simpa using hlt
      have e : l.take i = l := List.take_of_length_le (by omega)
      rw [e]
      exact ⟨_, by simp only [ZfA, RT.val, d, cond_false], rfl, i, rfl⟩)
    (l, iN l.length, 0, [], ()) ⟨0, Nat.zero_le _, rfl⟩ (by simp only [iN]; omega)
   obtain ⟨r1, r2⟩ := r
   simp only at h1 hR
   subst h1 hR
   simp only [ZiC, RT.val, hs, hb, hr, okB, getO, cond_true, cond_false, Bool.not_false, Bool.true_or]
 exact ⟨by simp only [Zk8, hv]; rfl, by simp only [Zvg, hv, getO]⟩
theorem ZEV (t : Int) (b : List Int) (hb : b.length + 1 ≤ most) : ZyL t b = true ∧ ZJ8 t b = Zoe t b := by
 have hms := mst
 obtain ⟨r, hr, h1, hR⟩ := Zax (fl := false) (t := ZfB) (fuel := fun a => 1000000000000)
  (fun a => ∃ i : Nat, i ≤ b.length ∧ a = (t, b, (b.length : Int), (i : Int), ZnB t b i, ()))
  (fun a => Int.toNat (a.2.2.1 - a.2.2.2.1)) (fun r => r.1 = false ∧ r.2 = (t, b, (b.length : Int), (b.length : Int), ZnB t b b.length, ()))
  (by
   rintro a ⟨i, hi, rfl⟩
   by_cases hlt : i < b.length
   ·left
    have d : decide ((i : Int) < (b.length : Int)) = true := by simpa using hlt
    have r1 := Zec b i hlt
    have hl : ∀ x : Cell, Nat.ble (ZnB t b i ++ [x]).length most = true := fun x => by rw [Nat.ble_eq, List.length_append, ZnA]; simp only [List.length_singleton]; omega
    refine ⟨_, ?_, ⟨i + 1, hlt, rfl⟩, by simp only; omega⟩
    rw [ZHr]
    have g := get_d b i
    simp only [ZfB, RT.val, d, r1, g, hl, cond_true, Bool.not_true, Bool.false_or, Zxc i (by omega)]
   ·right; left
    have d : decide ((i : Int) < (b.length : Int)) = false := by simpa using hlt
    have e : i = b.length := by omega
    subst e
    exact ⟨_, by simp only [ZfB, RT.val, d, cond_false], rfl, rfl⟩)
  (t, b, iN b.length, 0, [], ()) ⟨0, Nat.zero_le _, rfl⟩ (by simp only [iN]; omega)
 obtain ⟨r1, r2⟩ := r
 simp only at h1 hR
 subst h1 hR
 have hn := ZEU (ZnB t b b.length) (by rw [ZnA]; exact hb)
 have hv : (ZlO t b).val = some (Zoe t b) := by
  simp only [ZlO, RT.val, hr, okB, getO, cond_true, hn.1, hn.2, Zoe]
 exact ⟨by simp only [ZyL, hv]; rfl, by simp only [ZJ8, hv, getO]⟩
def Zka : Entry := frzE (newE Zgf Zgg ZqV (fun a => some (smB a.2)) (fun a => Zoe a.1 a.2))
theorem Zo3 : Zc Tryz.prog 32 Zka := ZEp (ZHe ZFo fun a _ h => by
 have hb : smB a.2 = true := by cases hq : smB a.2 with
  | true => rfl
  | false => rw [hq] at h; exact absurd rfl h
 obtain ⟨h1, h2⟩ := ZEV a.1 a.2 (ZuB.1 hb)
 exact ⟨by rw [h1]; simp, h2⟩)
abbrev ZAW : R := R.pair (R.sl (R.int i64)) (R.int i64)
abbrev ZM3 : List Sh := []
abbrev ZAV : Rs := Rs.one (Sh.one R.bool)
def ZD3 (s : List Int × Int) : RT (Option (Bool × List Int × Int)) :=
 .br (Zq s 2) (.leaf (some (((Zd s 2).1 == 1, (Zd s 2).2)))) (.leaf none)
def Z5 (s : List Int × Int) : Bool × List Int × Int := getO (ZAV.dflt, ZAW.dflt) (ZD3 s).val
def ZaD (s : List Int × Int) : Bool := okB (ZD3 s).val
def ZM4 : Entry := boxE ZAW ZM3 ZAV (fun a => some (ZaD a.1 )) (fun a => Z5 a.1 )
theorem ZD2 : Zc Tryz.prog 74 ZM4 :=
 Za8 (P := Tryz.prog) (n := 7) (k := 8) (l := [(46, Zbl)]) (ol := []) ⟨ZaH, trivial⟩ Tryz.func74 rfl (by kernel_rfl) Tryz.call74 trivial (rb := ZAW) (ts := ZM3) (rs := ZAV) (t := fun a => ZD3 a.1 ) (fun a => by kernel_rfl)
abbrev ZM9 : R := R.pair (R.sl (R.int i64)) (R.int i64)
abbrev ZSd : List Sh := []
abbrev ZM8 : Rs := Rs.one (Sh.agg Zx)
def ZM7 (s : List Int × Int) : RT (Option (TC × List Int × Int)) :=
 let x1 := Zd (Zd (Z5 (ZiS (ZN s).2 (ZN s).1).2).2 5).2 8
 let x2 := x1.2
 let x3 := Zq x2 5
 let x4 := !x3
 let x5 := Zd x2 5
 let x6 := x5.2
 let x7 := ZaD x6
 let x8 := !x7
 let x9 := Z5 x6
 let x10 := x9.2
 let x11 := ZaD x10
 let x12 := Z5 x10
 let x13 := x12.2
 let x14 := Z5 x13
 let x15 := x14.2
 let x16 := Zq x15 4
 let x17 := !x16
 let x18 := Zd x15 4
 let x19 := x18.2
 let x20 := ZaD x19
 let x21 := Z5 x19
 let x22 := x21.2
 let x23 := Z5 x22
 let x24 := x23.2
 .br (Zjy s) (.br (!Zwb (ZN s).2 (ZN s).1 || ZaD (ZiS (ZN s).2 (ZN s).1).2) (.br (Zwb (ZN s).2 (ZN s).1) (.br (Zq (Z5 (ZiS (ZN s).2 (ZN s).1).2).2 5) (.br (!(ZN s).1 == 2 || Zq (Zd (Z5 (ZiS (ZN s).2 (ZN s).1).2).2 5).2 8) (.br (!(ZN s).1 == 2 || (x4 || (x8 || (!x11 || ZaD x13)))) (.br (!(ZN s).1 == 2 || (x4 || (x8 || x11))) (.br (!(ZN s).1 == 2 || (x4 || x7)) (.br (!(ZN s).1 == 2 || x3) (.br (!(ZN s).1 == 2 || (x17 || (!x20 || ZaD x22))) (.br (!(ZN s).1 == 2 || (x17 || x20)) (.br (!(ZN s).1 == 2 || x16) (.leaf (some ((((ZN s).1, (ZiS (ZN s).2 (ZN s).1).1, (Z5 (ZiS (ZN s).2 (ZN s).1).2).1, (Zd (Z5 (ZiS (ZN s).2 (ZN s).1).2).2 5).1 == 0, false, bif (ZN s).1 == 2 then u8.wrap x1.1 else 0, (ZN s).1 == 2 && x5.1 == 0, (ZN s).1 == 2 && x9.1, (ZN s).1 == 2 && x12.1, (ZN s).1 == 2 && x14.1, (ZN s).1 == 2 && x18.1 == 0, (ZN s).1 == 2 && x21.1, (ZN s).1 == 2 && x23.1), bif (ZN s).1 == 2 then x24.1 else (Zd (Z5 (ZiS (ZN s).2 (ZN s).1).2).2 5).2.1, bif (ZN s).1 == 2 then x24.2 else (Zd (Z5 (ZiS (ZN s).2 (ZN s).1).2).2 5).2.2)))) (.leaf none)) (.leaf none)) (.leaf none)) (.leaf none)) (.leaf none)) (.leaf none)) (.leaf none)) (.leaf none)) (.leaf none)) (.leaf none)) (.leaf none)) (.leaf none)
def nCPU (s : List Int × Int) : TC × List Int × Int := getO (ZM8.dflt, ZM9.dflt) (ZM7 s).val
def ZNa (s : List Int × Int) : Bool := okB (ZM7 s).val
def ZHm : Entry := boxE ZM9 ZSd ZM8 (fun a => some (ZNa a.1 )) (fun a => nCPU a.1 )
theorem ZA1 : Zc Tryz.prog 23 ZHm :=
 Za8 (P := Tryz.prog) (n := 31) (k := 8) (l := [(46, Zbl), (72, Zwl), (73, ZSb), (74, ZM4)]) (ol := []) ⟨ZaH, Zts, ZQg, ZD2, trivial⟩ Tryz.func23 rfl (by kernel_rfl) Tryz.call23 trivial (rb := ZM9) (ts := ZSd) (rs := ZM8) (t := fun a => ZM7 a.1 ) (fun a => by kernel_rfl)
abbrev ZeA : R := R.pair (R.int u16) (R.pair (R.int u16) (R.pair R.bool (R.int i64)))
abbrev ZeB : Nat := 102
abbrev Zgo : R := R.pair (R.sl (R.int i64)) (R.int i64)
abbrev ZiT : List Sh := [Sh.one (R.int i64)]
def ZAQ : LS := { n := 44, slots := [(0, .fix (A.loc 0 0)), (5, .tip 0), (6, .code (Sh.one (R.int i64)))], boxes := [[.many (R.pair (R.sl (R.int i64)) (R.int i64))]], stgs := [⟨(R.pair (R.int u16) (R.pair (R.int u16) (R.pair R.bool (R.int i64)))), 102, false⟩] }
def ZdK (a : QT16) : RT (Option (Go1 (QT16))) :=
 let x1 := !Zq (Za2 a.2.1).2 6 || Zg (Zd (Za2 a.2.1).2 6).1 (List.length [0, 3, 15, 255, 4095, 65535])
 let x2 := !x1
 let x3 := !Zq (Zd (Zd (Za2 a.2.1).2 6).2 3).2 5
 let x4 : Int := (Zd (Zd (Zd (Za2 a.2.1).2 6).2 3).2 5).1
 let x5 := Zg x4 (List.length [0, 0, 1, 2, 5])
 let x6 := i64.wrap (i64.wrap (Za2 a.2.1).1 + R.get (R.int i64) [0, 3, 15, 255, 4095, 65535] (Zd (Za2 a.2.1).2 6).1)
 let x7 : List (QT9) := a.2.2.1 ++ [((Za2 a.2.1).1, u16.wrap (if 65535 < x6 then 65535 else x6), decide ((Zd (Zd (Za2 a.2.1).2 6).2 3).1 > 0), R.get (R.int i64) [0, 0, 1, 2, 5] x4)]
 let x8 := !Zq (Zd (Za2 a.2.1).2 6).2 3 || (x3 || (!x5 || Nat.ble (List.length x7) most))
 let x9 := !x8
 let x10 := !Zq (Zd (Za2 a.2.1).2 6).2 3 || (x3 || x5)
 let x11 := !x10
 let x12 := !Zq (Zd (Za2 a.2.1).2 6).2 3 || Zq (Zd (Zd (Za2 a.2.1).2 6).2 3).2 5
 .br (decide (a.1 > 0)) (.br (!Zd4 a.2.1 || (x2 || (!Zq (Za2 a.2.1).2 6 || (x9 || (x11 || (!x12 || Zq (Zd (Za2 a.2.1).2 6).2 3)))))) (.br (!Zd4 a.2.1 || (x2 || (!Zq (Za2 a.2.1).2 6 || (x9 || (x11 || x12))))) (.br (!Zd4 a.2.1 || (x2 || (!Zq (Za2 a.2.1).2 6 || (x9 || x10)))) (.br (!Zd4 a.2.1 || (x2 || (!Zq (Za2 a.2.1).2 6 || x8))) (.br (!Zd4 a.2.1 || (x2 || Zq (Za2 a.2.1).2 6)) (.br (!Zd4 a.2.1 || x1) (.br (Zd4 a.2.1) (.leaf (some (Go1.cont (i64.wrap (a.1 - 1), (Zd (Zd (Zd (Za2 a.2.1).2 6).2 3).2 5).2, x7, PUnit.unit)))) (.leaf none)) (.leaf none)) (.leaf none)) (.leaf none)) (.leaf none)) (.leaf none)) (.leaf none)) (.leaf (some (Go1.brk (a.1, a.2.1, a.2.2.1, PUnit.unit))))
def Zna : Ora := ZdV false ZAQ ZdK (fun a => 400)
theorem Zth : ZcS (envX Tryz.prog [(46, Zbl), (137, Zv9)] [] 511 8) (.block 0 (.loop (Zbc Tryz.f151.body 0))) Zna :=
 Zaa (Zag (l := [(46, Zbl), (137, Zv9)]) ⟨ZaH, Ztf, trivial⟩ [] 511 8) (ZO (by kernel_rfl)) (fun a => by kernel_rfl)
def ZfO (s : List Int × Int) (n : Int) : RT (Option (List (QT9) × List Int × Int)) :=
 let x1 : QT16 := ((Zd s (i64.wrap (n + 1))).1, (Zd s (i64.wrap (n + 1))).2, [], ())
 let x2 := runF false ZdK (fun a => 400) x1
 let x3 : (List Int × Int) × List (QT9) × PUnit := (getO (false, x1) x2).2.2
 .br (Zq s (i64.wrap (n + 1))) (.br (okB x2) (.leaf (some ((x3.2.1, x3.1)))) (.leaf none)) (.leaf none)
def Za6 (s : List Int × Int) (n : Int) : List (QT9) × List Int × Int := getO ([], Zgo.dflt) (ZfO s n).val
def ZcY (s : List Int × Int) (n : Int) : Bool := okB (ZfO s n).val
def Zwc : Entry := frzE (ZHg Zgo ZeA ZeB ZiT (fun a => some (ZcY a.1 a.2)) (fun a => Za6 a.1 a.2))
theorem Zwd : Zc Tryz.prog 151 (ZHg Zgo ZeA ZeB ZiT (fun a => some (ZcY a.1 a.2)) (fun a => Za6 a.1 a.2)) :=
 ZMP (P := Tryz.prog) (n := 511) (k := 8) (l := [(46, Zbl), (137, Zv9)]) (ol := [(0, Zna)]) ⟨ZaH, Ztf, trivial⟩ Tryz.func151 rfl (by kernel_rfl) Tryz.call151 ⟨Zth, trivial⟩ (rb := Zgo) (r := ZeA) (T := ZeB) (ts := ZiT) (t := fun a => ZfO a.1 a.2) (fun a => by kernel_rfl)
theorem ZAO : Zc Tryz.prog 151 Zwc := ZEp Zwd
abbrev ZMY : R := R.pair (R.sl (R.int i64)) (R.int i64)
abbrev ZSc : List Sh := []
abbrev ZMX : Rs := Rs.one (Sh.one rcRG)
def ZMW (s : List Int × Int) : RT (Option (List (QT9) × List Int × Int)) :=
 let x1 : List (QT9) := Stg.l (newG ZeA ZeB (Za6 s 2).1) ++ [(0, 65535, true, i64.wrap (Int.tdiv (Zd (Za6 s 2).2 3).1 2))]
 .br (!ZcY s 2 || (!Zq (Za6 s 2).2 3 || Nat.ble (List.length x1) most)) (.br (!ZcY s 2 || Zq (Za6 s 2).2 3) (.br (ZcY s 2) (.leaf (some ((x1, (Zd (Za6 s 2).2 3).2)))) (.leaf none)) (.leaf none)) (.leaf none)
def nMap (s : List Int × Int) : List (QT9) × List Int × Int := getO (ZMX.dflt, ZMY.dflt) (ZMW s).val
def ZHh (s : List Int × Int) : Bool := okB (ZMW s).val
def ZQi : Entry := boxE ZMY ZSc ZMX (fun a => some (ZHh a.1 )) (fun a => nMap a.1 )
theorem ZMU : Zc Tryz.prog 95 ZQi :=
 Za8 (P := Tryz.prog) (n := 7) (k := 8) (l := [(46, Zbl), (151, Zwc)]) (ol := []) ⟨ZaH, ZAO, trivial⟩ Tryz.func95 rfl (by kernel_rfl) Tryz.call95 trivial (rb := ZMY) (ts := ZSc) (rs := ZMX) (t := fun a => ZMW a.1 ) (fun a => by kernel_rfl)
abbrev ZiV : R := R.pair (R.sl (R.int i64)) (R.int i64)
abbrev Zpw : List Sh := [Sh.one (R.int i64)]
abbrev ZiU : Rs := Rs.one (Sh.one (R.sl (R.int u8)))
def ZAS : LS := { n := 75, slots := [(0, .fix (A.loc 0 0)), (5, .tip 0), (6, .code (Sh.one (R.int i64)))], boxes := [[.many (R.pair (R.sl (R.int i64)) (R.int i64))]], stgs := [⟨(R.int u8), 5, true⟩] }
def ZcC (a : QT23) : RT (Option (Go1 (QT23))) :=
 let x1 := Zg (Zd (Zd a.2.1 8).2 4).1 (List.length [33, 49, 1, 17])
 let x2 := !x1
 let x3 := Zq (Zd (Zd (Zd a.2.1 8).2 4).2 256).2 4
 let x4 := !x3
 let x5 := Zd (Zd (Zd (Zd a.2.1 8).2 4).2 256).2 4
 let x6 := x5.1
 let x7 := Zg x6 (List.length [0, 0, 1, 255])
 let x8 : List Int := a.2.2.1 ++ [R.get (R.int u8) [33, 49, 1, 17] (Zd (Zd a.2.1 8).2 4).1, u8.wrap (Zd (Zd (Zd a.2.1 8).2 4).2 256).1, R.get (R.int u8) [0, 0, 1, 255] x6]
 let x9 := !(Zd a.2.1 8).1 == 0 || (!Zq (Zd a.2.1 8).2 4 || (x2 || (!Zq (Zd (Zd a.2.1 8).2 4).2 256 || (x4 || (!x7 || Nat.ble (List.length x8) most)))))
 let x10 := !x9
 let x11 := !(Zd a.2.1 8).1 == 0 || (!Zq (Zd a.2.1 8).2 4 || (x2 || (!Zq (Zd (Zd a.2.1 8).2 4).2 256 || (x4 || x7))))
 let x12 := !x11
 let x13 := !(Zd a.2.1 8).1 == 0 || (!Zq (Zd a.2.1 8).2 4 || (x2 || (!Zq (Zd (Zd a.2.1 8).2 4).2 256 || x3)))
 let x14 := !x13
 let x15 := !(Zd a.2.1 8).1 == 0 || (!Zq (Zd a.2.1 8).2 4 || (x2 || Zq (Zd (Zd a.2.1 8).2 4).2 256))
 let x16 := !x15
 let x17 := !(Zd a.2.1 8).1 == 0 || (!Zq (Zd a.2.1 8).2 4 || x1)
 let x18 := !x17
 let x19 := !(Zd a.2.1 8).1 == 0 || Zq (Zd a.2.1 8).2 4
 let x20 := !x19
 let x21 : List Int := a.2.2.1 ++ [62, (Zm (Zd a.2.1 8).2).1, 211, u8.wrap (Zd (Zm (Zd a.2.1 8).2).2 8).1]
 let x22 := (Zd a.2.1 8).1 == 0 || (!(Zd a.2.1 8).1 == 1 || (!Zaj (Zd a.2.1 8).2 || (!Zq (Zm (Zd a.2.1 8).2).2 8 || Nat.ble (List.length x21) most)))
 let x23 := !x22
 let x24 := (Zd a.2.1 8).1 == 0 || (!(Zd a.2.1 8).1 == 1 || (!Zaj (Zd a.2.1 8).2 || Zq (Zm (Zd a.2.1 8).2).2 8))
 let x25 := !x24
 let x26 := (Zd a.2.1 8).1 == 0 || (!(Zd a.2.1 8).1 == 1 || Zaj (Zd a.2.1 8).2)
 let x27 := !x26
 let x28 := (Zd a.2.1 8).1 == 0 || ((Zd a.2.1 8).1 == 1 || (!(Zd a.2.1 8).1 == 2 || Nat.ble (List.length (a.2.2.1 ++ [251])) most))
 let x29 := !x28
 let x30 : List Int := a.2.2.1 ++ [62, u8.wrap (i64.wrap (16 + (Zd (Zd a.2.1 8).2 16).1)), 211, 0, 62, (Zm (Zd (Zd a.2.1 8).2 16).2).1, 211, 1, 62, 0, 211, 1]
 let x31 := (Zd a.2.1 8).1 == 0 || ((Zd a.2.1 8).1 == 1 || ((Zd a.2.1 8).1 == 2 || (!(Zd a.2.1 8).1 == 3 || (!Zq (Zd a.2.1 8).2 16 || (!Zaj (Zd (Zd a.2.1 8).2 16).2 || Nat.ble (List.length x30) most)))))
 let x32 := !x31
 let x33 := (Zd a.2.1 8).1 == 0 || ((Zd a.2.1 8).1 == 1 || ((Zd a.2.1 8).1 == 2 || (!(Zd a.2.1 8).1 == 3 || (!Zq (Zd a.2.1 8).2 16 || Zaj (Zd (Zd a.2.1 8).2 16).2))))
 let x34 := !x33
 let x35 := (Zd a.2.1 8).1 == 0 || ((Zd a.2.1 8).1 == 1 || ((Zd a.2.1 8).1 == 2 || (!(Zd a.2.1 8).1 == 3 || Zq (Zd a.2.1 8).2 16)))
 let x36 := !x35
 let x37 := !Zq (Zd (Zal (Zd a.2.1 8).2).2 64).2 4
 let x38 : Int := (Zd (Zd (Zal (Zd a.2.1 8).2).2 64).2 4).1
 let x39 := Zg x38 (List.length [0, 0, 1, 255])
 let x40 : List Int := a.2.2.1 ++ [(Zal (Zd a.2.1 8).2).1, u8.wrap (Zd (Zal (Zd a.2.1 8).2).2 64).1, R.get (R.int u8) [0, 0, 1, 255] x38]
 let x41 := (Zd a.2.1 8).1 == 0 || ((Zd a.2.1 8).1 == 1 || ((Zd a.2.1 8).1 == 2 || ((Zd a.2.1 8).1 == 3 || (!ZbL (Zd a.2.1 8).2 || (!Zq (Zal (Zd a.2.1 8).2).2 64 || (x37 || (!x39 || Nat.ble (List.length x40) most)))))))
 let x42 := !x41
 let x43 := (Zd a.2.1 8).1 == 0 || ((Zd a.2.1 8).1 == 1 || ((Zd a.2.1 8).1 == 2 || ((Zd a.2.1 8).1 == 3 || (!ZbL (Zd a.2.1 8).2 || (!Zq (Zal (Zd a.2.1 8).2).2 64 || (x37 || x39))))))
 let x44 := !x43
 let x45 := (Zd a.2.1 8).1 == 0 || ((Zd a.2.1 8).1 == 1 || ((Zd a.2.1 8).1 == 2 || ((Zd a.2.1 8).1 == 3 || (!ZbL (Zd a.2.1 8).2 || (!Zq (Zal (Zd a.2.1 8).2).2 64 || Zq (Zd (Zal (Zd a.2.1 8).2).2 64).2 4)))))
 let x46 := !x45
 let x47 := (Zd a.2.1 8).1 == 0 || ((Zd a.2.1 8).1 == 1 || ((Zd a.2.1 8).1 == 2 || ((Zd a.2.1 8).1 == 3 || (!ZbL (Zd a.2.1 8).2 || Zq (Zal (Zd a.2.1 8).2).2 64))))
 let x48 := x10 || (x12 || (x14 || (x16 || (x18 || (x20 || (x23 || (x25 || (x27 || (x29 || (x32 || (x34 || (x36 || (x42 || (x44 || (x46 || (!x47 || ((Zd a.2.1 8).1 == 0 || ((Zd a.2.1 8).1 == 1 || ((Zd a.2.1 8).1 == 2 || ((Zd a.2.1 8).1 == 3 || ZbL (Zd a.2.1 8).2))))))))))))))))))))
 let x49 := !x48
 let x50 := x10 || (x12 || (x14 || (x16 || (x18 || (x20 || (x23 || (x25 || (x27 || (x29 || (x32 || (x34 || (x36 || (x42 || (x44 || (x46 || x47)))))))))))))))
 let x51 := !x50
 let x52 := x10 || (x12 || (x14 || (x16 || (x18 || (x20 || (x23 || (x25 || (x27 || (x29 || (x32 || (x34 || (x36 || (x42 || (x44 || x45))))))))))))))
 let x53 := !x52
 let x54 := x10 || (x12 || (x14 || (x16 || (x18 || (x20 || (x23 || (x25 || (x27 || (x29 || (x32 || (x34 || (x36 || (x42 || x43)))))))))))))
 let x55 := !x54
 let x56 := x10 || (x12 || (x14 || (x16 || (x18 || (x20 || (x23 || (x25 || (x27 || (x29 || (x32 || (x34 || (x36 || x41))))))))))))
 let x57 := !x56
 let x58 := x10 || (x12 || (x14 || (x16 || (x18 || (x20 || (x23 || (x25 || (x27 || (x29 || (x32 || (x34 || x35)))))))))))
 let x59 := !x58
 let x60 := x10 || (x12 || (x14 || (x16 || (x18 || (x20 || (x23 || (x25 || (x27 || (x29 || (x32 || x33))))))))))
 let x61 := !x60
 let x62 := x10 || (x12 || (x14 || (x16 || (x18 || (x20 || (x23 || (x25 || (x27 || (x29 || x31)))))))))
 let x63 := !x62
 let x64 := x10 || (x12 || (x14 || (x16 || (x18 || (x20 || (x23 || (x25 || (x27 || x28))))))))
 let x65 := !x64
 let x66 := x10 || (x12 || (x14 || (x16 || (x18 || (x20 || (x23 || (x25 || x26)))))))
 let x67 := !x66
 let x68 := x10 || (x12 || (x14 || (x16 || (x18 || (x20 || (x23 || x24))))))
 let x69 := !x68
 let x70 := x10 || (x12 || (x14 || (x16 || (x18 || (x20 || x22)))))
 let x71 := !x70
 let x72 := x10 || (x12 || (x14 || (x16 || (x18 || x19))))
 let x73 := !x72
 let x74 := x10 || (x12 || (x14 || (x16 || x17)))
 let x75 := !x74
 let x76 := x10 || (x12 || (x14 || x15))
 let x77 := !x76
 let x78 := x10 || (x12 || x13)
 let x79 := !x78
 let x80 := x10 || x11
 let x81 : List Int × Int := (Zd (Zd (Zal (Zd a.2.1 8).2).2 64).2 4).2
 .br (decide (a.1 > 0)) (.br (!Zq a.2.1 8 || (x49 || (x51 || (x53 || (x55 || (x57 || (x59 || (x61 || (x63 || (x65 || (x67 || (x69 || (x71 || (x73 || (x75 || (x77 || (x79 || (!x80 || x9)))))))))))))))))) (.br (!Zq a.2.1 8 || (x49 || (x51 || (x53 || (x55 || (x57 || (x59 || (x61 || (x63 || (x65 || (x67 || (x69 || (x71 || (x73 || (x75 || (x77 || (x79 || x80))))))))))))))))) (.br (!Zq a.2.1 8 || (x49 || (x51 || (x53 || (x55 || (x57 || (x59 || (x61 || (x63 || (x65 || (x67 || (x69 || (x71 || (x73 || (x75 || (x77 || x78)))))))))))))))) (.br (!Zq a.2.1 8 || (x49 || (x51 || (x53 || (x55 || (x57 || (x59 || (x61 || (x63 || (x65 || (x67 || (x69 || (x71 || (x73 || (x75 || x76))))))))))))))) (.br (!Zq a.2.1 8 || (x49 || (x51 || (x53 || (x55 || (x57 || (x59 || (x61 || (x63 || (x65 || (x67 || (x69 || (x71 || (x73 || x74)))))))))))))) (.br (!Zq a.2.1 8 || (x49 || (x51 || (x53 || (x55 || (x57 || (x59 || (x61 || (x63 || (x65 || (x67 || (x69 || (x71 || x72))))))))))))) (.br (!Zq a.2.1 8 || (x49 || (x51 || (x53 || (x55 || (x57 || (x59 || (x61 || (x63 || (x65 || (x67 || (x69 || x70)))))))))))) (.br (!Zq a.2.1 8 || (x49 || (x51 || (x53 || (x55 || (x57 || (x59 || (x61 || (x63 || (x65 || (x67 || x68))))))))))) (.br (!Zq a.2.1 8 || (x49 || (x51 || (x53 || (x55 || (x57 || (x59 || (x61 || (x63 || (x65 || x66)))))))))) (.br (!Zq a.2.1 8 || (x49 || (x51 || (x53 || (x55 || (x57 || (x59 || (x61 || (x63 || x64))))))))) (.br (!Zq a.2.1 8 || (x49 || (x51 || (x53 || (x55 || (x57 || (x59 || (x61 || x62)))))))) (.br (!Zq a.2.1 8 || (x49 || (x51 || (x53 || (x55 || (x57 || (x59 || x60))))))) (.br (!Zq a.2.1 8 || (x49 || (x51 || (x53 || (x55 || (x57 || x58)))))) (.br (!Zq a.2.1 8 || (x49 || (x51 || (x53 || (x55 || x56))))) (.br (!Zq a.2.1 8 || (x49 || (x51 || (x53 || x54)))) (.br (!Zq a.2.1 8 || (x49 || (x51 || x52))) (.br (!Zq a.2.1 8 || (x49 || x50)) (.br (!Zq a.2.1 8 || x48) (.br (Zq a.2.1 8) (.br ((Zd a.2.1 8).1 == 0) (.leaf (some (Go1.cont (i64.wrap (a.1 - 1), x5.2, x8, PUnit.unit)))) (.br ((Zd a.2.1 8).1 == 1) (.leaf (some (Go1.cont (i64.wrap (a.1 - 1), (Zd (Zm (Zd a.2.1 8).2).2 8).2, x21, PUnit.unit)))) (.br ((Zd a.2.1 8).1 == 2) (.leaf (some (Go1.cont (i64.wrap (a.1 - 1), (Zd a.2.1 8).2, a.2.2.1 ++ [251], PUnit.unit)))) (.leaf (some (Go1.cont (i64.wrap (a.1 - 1), (bif (Zd a.2.1 8).1 == 3 then (Zm (Zd (Zd a.2.1 8).2 16).2).2.1 else x81.1, bif (Zd a.2.1 8).1 == 3 then (Zm (Zd (Zd a.2.1 8).2 16).2).2.2 else x81.2), bif (Zd a.2.1 8).1 == 3 then x30 else x40, PUnit.unit))))))) (.leaf none)) (.leaf none)) (.leaf none)) (.leaf none)) (.leaf none)) (.leaf none)) (.leaf none)) (.leaf none)) (.leaf none)) (.leaf none)) (.leaf none)) (.leaf none)) (.leaf none)) (.leaf none)) (.leaf none)) (.leaf none)) (.leaf none)) (.leaf none)) (.leaf none)) (.leaf (some (Go1.brk (a.1, a.2.1, a.2.2.1, PUnit.unit))))
def Znc : Ora := ZdV false ZAS ZcC (fun a => 400)
theorem Zti : ZcS (envX Tryz.prog [(46, Zbl), (108, Zjz), (109, Zd5)] [] 9511883889056940159 8) (.block 0 (.loop (Zbc Tryz.f47.body 0))) Znc :=
 Zaa (Zag (l := [(46, Zbl), (108, Zjz), (109, Zd5)]) ⟨ZaH, Zh9, ZeC, trivial⟩ [] 9511883889056940159 8) (ZO (by kernel_rfl)) (fun a => by kernel_rfl)
def ZfP (s : List Int × Int) (n : Int) : RT (Option (List Int × List Int × Int)) :=
 let x1 : QT23 := ((Zd s (i64.wrap (n + 1))).1, (Zd s (i64.wrap (n + 1))).2, [], ())
 let x2 := runF false ZcC (fun a => 400) x1
 let x3 : (List Int × Int) × List Int × PUnit := (getO (false, x1) x2).2.2
 .br (Zq s (i64.wrap (n + 1))) (.br (okB x2) (.leaf (some ((x3.2.1, x3.1)))) (.leaf none)) (.leaf none)
def ZbK (s : List Int × Int) (n : Int) : List Int × List Int × Int := getO (ZiU.dflt, ZiV.dflt) (ZfP s n).val
def ZfQ (s : List Int × Int) (n : Int) : Bool := okB (ZfP s n).val
def Zh5 : Entry := boxE ZiV Zpw ZiU (fun a => some (ZfQ a.1 a.2)) (fun a => ZbK a.1 a.2)
theorem Znb : Zc Tryz.prog 47 Zh5 :=
 Za8 (P := Tryz.prog) (n := 9511883889056940159) (k := 8) (l := [(46, Zbl), (108, Zjz), (109, Zd5)]) (ol := [(0, Znc)]) ⟨ZaH, Zh9, ZeC, trivial⟩ Tryz.func47 rfl (by kernel_rfl) Tryz.call47 ⟨Zti, trivial⟩ (rb := ZiV) (ts := Zpw) (rs := ZiU) (t := fun a => ZfP a.1 a.2) (fun a => by kernel_rfl)
abbrev Ztu : R := R.pair (R.sl (R.int i64)) (R.int i64)
abbrev ZD6 : List Sh := []
abbrev Ztt : Rs := Rs.one (Sh.agg (R.pair (R.int i64) (R.pair rcRG (R.pair (R.int i64) (R.pair (R.int u8) (R.pair (R.int u8) (R.pair R.bool rcCE)))))))
def ZNe : LS := { n := 50, slots := [(0, .fix (A.loc 0 0)), (2, .fix (A.loc 1 0)), (3, .fix (A.loc 2 0)), (4, .tip 0), (5, .code (Sh.one (R.int i64)))], boxes := [[.many (R.pair (R.sl (R.int i64)) (R.int i64))], [.many (R.pair (R.int i64) (R.pair rcRG (R.pair (R.int i64) (R.pair (R.int u8) (R.pair (R.int u8) (R.pair R.bool rcCE))))))], [.many (R.pair (R.int i64) (R.pair rcRG (R.pair (R.int i64) (R.pair (R.int u8) (R.pair (R.int u8) (R.pair R.bool rcCE))))))]], stgs := [⟨R.pair (R.int u16) (R.int u8), 106, true⟩] }
def ZeE (a : QT15) : RT (Option (Go1 (QT15))) :=
 let x1 := Zg (Zd a.2.1 6).1 (List.length [36, 60, 52, 44, 56, 32])
 let x2 := !x1
 let x3 : List Int := [(Zal (Zd a.2.1 6).2).1, 251, 201]
 let x4 := smB x3
 let x5 : List (Int × Int) := a.2.2.2.2.1 ++ Stg.l (newG Zgf Zgg (Zoe (u16.wrap (R.get (R.int i64) [36, 60, 52, 44, 56, 32] (Zd a.2.1 6).1)) x3))
 let x6 := !Zq a.2.1 6 || (x2 || (!ZbL (Zd a.2.1 6).2 || (!x4 || Nat.ble (List.length x5) most)))
 let x7 := !x6
 let x8 := !Zq a.2.1 6 || (x2 || (!ZbL (Zd a.2.1 6).2 || x4))
 let x9 := !x8
 let x10 := !Zq a.2.1 6 || (x2 || ZbL (Zd a.2.1 6).2)
 let x11 := !x10
 let x12 := !Zq a.2.1 6 || x1
 .br (decide (a.1 > 0)) (.br (x7 || (x9 || (x11 || (!x12 || Zq a.2.1 6)))) (.br (x7 || (x9 || (x11 || x12))) (.br (x7 || (x9 || x10)) (.br (x7 || x8) (.br (x6) (.leaf (some (Go1.cont (i64.wrap (a.1 - 1), (Zal (Zd a.2.1 6).2).2, a.2.2.1, a.2.2.2.1, x5, PUnit.unit)))) (.leaf none)) (.leaf none)) (.leaf none)) (.leaf none)) (.leaf none)) (.leaf (some (Go1.brk (a.1, a.2.1, a.2.2.1, a.2.2.2.1, a.2.2.2.2.1, PUnit.unit))))
def Zwm : Ora := ZdV false ZNe ZeE (fun a => 400)
theorem ZA4 : ZcS (envX Tryz.prog [(32, Zka), (46, Zbl), (47, Zh5), (72, Zwl), (92, Zla), (95, ZQi), (108, Zjz), (109, Zd5)] [] 63 8) (.block 0 (.loop (Zbc Tryz.f62.body 0))) Zwm :=
 Zaa (Zag (l := [(32, Zka), (46, Zbl), (47, Zh5), (72, Zwl), (92, Zla), (95, ZQi), (108, Zjz), (109, Zd5)]) ⟨Zo3, ZaH, Znb, Zts, Zk9, ZMU, Zh9, ZeC, trivial⟩ [] 63 8) (ZO (by kernel_rfl)) (fun a => by kernel_rfl)
def Znm (s : List Int × Int) : RT (Option (BRDT × List Int × Int)) :=
 let x1 := (Zd (Zd (Zd (nMap (ZN s).2).2 3).2 4).2 6).1 == 0
 let x2 := !x1
 let x3 : List Int × Int := (Zd (Zd (Zd (nMap (ZN s).2).2 3).2 4).2 6).2
 let x4 := Zaj x3
 let x5 := Zm x3
 let x6 := x5.2
 let x7 := Zm x6
 let x8 := x7.2
 let x9 : List Int × Int := (bif x1 then x8.1 else x3.1, bif x1 then x8.2 else x3.2)
 let x10 := ZfQ x9 12
 let x11 := ZbK x9 12
 let x12 := x11.1
 let x13 := x11.2
 let x14 := Zd x13 4
 let x15 : QT15 := (x14.1, x14.2, (0, [], 0, 0, 0, false, []), ((ZN s).1, (nMap (ZN s).2).1, (Zd (nMap (ZN s).2).2 3).1, bif x1 then x5.1 else 0, bif x1 then x7.1 else 4, (Zd (Zd (nMap (ZN s).2).2 3).2 4).1 == 0, []), Stg.l (newG Zgf Zgg (Zoe 0 x12)), ())
 let x16 := runF false ZeE (fun a => 400) x15
 let x17 : (List Int × Int) × BRDT × BRDT × List (Int × Int) × PUnit := (getO (false, x15) x16).2.2
 let x18 := x17.2.2
 let x19 := x18.2.1
 let x20 := x18.1
 let x21 := x20.2
 let x22 := x21.2
 let x23 := x22.2
 let x24 := x23.2
 .br (!Zjy s || (!ZHh (ZN s).2 || (!Zq (nMap (ZN s).2).2 3 || Zq (Zd (nMap (ZN s).2).2 3).2 4))) (.br (!Zjy s || (!ZHh (ZN s).2 || Zq (nMap (ZN s).2).2 3)) (.br (!Zjy s || ZHh (ZN s).2) (.br (Zjy s) (.br (Zq (Zd (Zd (nMap (ZN s).2).2 3).2 4).2 6) (.br (x2 || (!x4 || Zaj x6)) (.br (x2 || x4) (.br (!x10 || smB x12) (.br (x10) (.br (Zq x13 4) (.br (okB x16) (.br (smC x19) (.leaf (some (((x20.1, x21.1, x22.1, x23.1, x24.1, x24.2.1, Cells.normX x19), x17.1)))) (.leaf none)) (.leaf none)) (.leaf none)) (.leaf none)) (.leaf none)) (.leaf none)) (.leaf none)) (.leaf none)) (.leaf none)) (.leaf none)) (.leaf none)) (.leaf none)
def Zaz (s : List Int × Int) : BRDT × List Int × Int := getO (Ztt.dflt, Ztu.dflt) (Znm s).val
def ZfS (s : List Int × Int) : Bool := okB (Znm s).val
def ZNf : Entry := boxE Ztu ZD6 Ztt (fun a => some (ZfS a.1 )) (fun a => Zaz a.1 )
theorem ZNc : Zc Tryz.prog 62 ZNf :=
 Za8 (P := Tryz.prog) (n := 63) (k := 8) (l := [(32, Zka), (46, Zbl), (47, Zh5), (72, Zwl), (92, Zla), (95, ZQi), (108, Zjz), (109, Zd5)]) (ol := [(0, Zwm)]) ⟨Zo3, ZaH, Znb, Zts, Zk9, ZMU, Zh9, ZeC, trivial⟩ Tryz.func62 rfl (by kernel_rfl) Tryz.call62 ⟨ZA4, trivial⟩ (rb := Ztu) (ts := ZD6) (rs := Ztt) (t := fun a => Znm a.1 ) (fun a => by kernel_rfl)
abbrev Ztn : R := R.pair (R.sl (R.int i64)) (R.int i64)
abbrev ZD0 : List Sh := []
abbrev Ztm : Rs := Rs.one (Sh.agg Zdi)
def Znk (s : List Int × Int) : RT (Option (INPT × List Int × Int)) :=
 let x1 := decide ((Zd s 64).1 < 30) || (decide ((Zd s 64).1 < 36) || (decide ((Zd s 64).1 < 40) || (!decide ((Zd s 64).1 < 46) || Zq (Zd s 64).2 256)))
 let x2 := !x1
 let x3 := decide ((Zd s 64).1 < 30) || (decide ((Zd s 64).1 < 36) || (decide ((Zd s 64).1 < 40) || (decide ((Zd s 64).1 < 46) || (decide ((Zd s 64).1 < 50) || (decide ((Zd s 64).1 < 53) || (decide ((Zd s 64).1 < 55) || ((Zd s 64).1 == 55 || (!decide ((Zd s 64).1 < 60) || ZbL (Zd s 64).2))))))))
 let x4 := !x3
 let x5 := !ZaD (Z5 (Z5 (Z5 (Z5 (Zd s 64).2).2).2).2).2
 let x6 : List Int × Int := (Z5 (Z5 (Z5 (Z5 (Z5 (Zd s 64).2).2).2).2).2).2
 let x7 := Zq x6 256
 let x8 := Zd x6 256
 let x9 := x8.2
 let x10 := decide ((Zd s 64).1 < 30) || (decide ((Zd s 64).1 < 36) || (decide ((Zd s 64).1 < 40) || (decide ((Zd s 64).1 < 46) || (decide ((Zd s 64).1 < 50) || (decide ((Zd s 64).1 < 53) || (decide ((Zd s 64).1 < 55) || ((Zd s 64).1 == 55 || (decide ((Zd s 64).1 < 60) || (!ZaD (Zd s 64).2 || (!ZaD (Z5 (Zd s 64).2).2 || (!ZaD (Z5 (Z5 (Zd s 64).2).2).2 || (!ZaD (Z5 (Z5 (Z5 (Zd s 64).2).2).2).2 || (x5 || (!x7 || Zq x9 256))))))))))))))
 let x11 := !x10
 let x12 := decide ((Zd s 64).1 < 30) || (decide ((Zd s 64).1 < 36) || (decide ((Zd s 64).1 < 40) || (decide ((Zd s 64).1 < 46) || (decide ((Zd s 64).1 < 50) || (decide ((Zd s 64).1 < 53) || (decide ((Zd s 64).1 < 55) || ((Zd s 64).1 == 55 || (decide ((Zd s 64).1 < 60) || (!ZaD (Zd s 64).2 || (!ZaD (Z5 (Zd s 64).2).2 || (!ZaD (Z5 (Z5 (Zd s 64).2).2).2 || (!ZaD (Z5 (Z5 (Z5 (Zd s 64).2).2).2).2 || (x5 || x7)))))))))))))
 let x13 := !x12
 let x14 := decide ((Zd s 64).1 < 30) || (decide ((Zd s 64).1 < 36) || (decide ((Zd s 64).1 < 40) || (decide ((Zd s 64).1 < 46) || (decide ((Zd s 64).1 < 50) || (decide ((Zd s 64).1 < 53) || (decide ((Zd s 64).1 < 55) || ((Zd s 64).1 == 55 || (decide ((Zd s 64).1 < 60) || (!ZaD (Zd s 64).2 || (!ZaD (Z5 (Zd s 64).2).2 || (!ZaD (Z5 (Z5 (Zd s 64).2).2).2 || (!ZaD (Z5 (Z5 (Z5 (Zd s 64).2).2).2).2 || ZaD (Z5 (Z5 (Z5 (Z5 (Zd s 64).2).2).2).2).2))))))))))))
 let x15 := !x14
 let x16 := decide ((Zd s 64).1 < 30) || (decide ((Zd s 64).1 < 36) || (decide ((Zd s 64).1 < 40) || (decide ((Zd s 64).1 < 46) || (decide ((Zd s 64).1 < 50) || (decide ((Zd s 64).1 < 53) || (decide ((Zd s 64).1 < 55) || ((Zd s 64).1 == 55 || (decide ((Zd s 64).1 < 60) || (!ZaD (Zd s 64).2 || (!ZaD (Z5 (Zd s 64).2).2 || (!ZaD (Z5 (Z5 (Zd s 64).2).2).2 || ZaD (Z5 (Z5 (Z5 (Zd s 64).2).2).2).2)))))))))))
 let x17 := !x16
 let x18 := decide ((Zd s 64).1 < 30) || (decide ((Zd s 64).1 < 36) || (decide ((Zd s 64).1 < 40) || (decide ((Zd s 64).1 < 46) || (decide ((Zd s 64).1 < 50) || (decide ((Zd s 64).1 < 53) || (decide ((Zd s 64).1 < 55) || ((Zd s 64).1 == 55 || (decide ((Zd s 64).1 < 60) || (!ZaD (Zd s 64).2 || (!ZaD (Z5 (Zd s 64).2).2 || ZaD (Z5 (Z5 (Zd s 64).2).2).2))))))))))
 let x19 := !x18
 let x20 := decide ((Zd s 64).1 < 30) || (decide ((Zd s 64).1 < 36) || (decide ((Zd s 64).1 < 40) || (decide ((Zd s 64).1 < 46) || (decide ((Zd s 64).1 < 50) || (decide ((Zd s 64).1 < 53) || (decide ((Zd s 64).1 < 55) || ((Zd s 64).1 == 55 || (decide ((Zd s 64).1 < 60) || (!ZaD (Zd s 64).2 || ZaD (Z5 (Zd s 64).2).2)))))))))
 let x21 := Zd x9 256
 let x22 := x21.2
 .br (Zq s 64) (.br (x2 || (x4 || (x11 || (x13 || (x15 || (x17 || (x19 || (!x20 || (decide ((Zd s 64).1 < 30) || (decide ((Zd s 64).1 < 36) || (decide ((Zd s 64).1 < 40) || (decide ((Zd s 64).1 < 46) || (decide ((Zd s 64).1 < 50) || (decide ((Zd s 64).1 < 53) || (decide ((Zd s 64).1 < 55) || ((Zd s 64).1 == 55 || (decide ((Zd s 64).1 < 60) || ZaD (Zd s 64).2))))))))))))))))) (.br (x2 || (x4 || (x11 || (x13 || (x15 || (x17 || (x19 || x20))))))) (.br (x2 || (x4 || (x11 || (x13 || (x15 || (x17 || x18)))))) (.br (x2 || (x4 || (x11 || (x13 || (x15 || x16))))) (.br (x2 || (x4 || (x11 || (x13 || x14)))) (.br (x2 || (x4 || (x11 || x12))) (.br (x2 || (x4 || x10)) (.br (x2 || x3) (.br (x1) (.leaf (some (((bif decide ((Zd s 64).1 < 30) then ZS.1 else !decide ((Zd s 64).1 < 36) && bif decide ((Zd s 64).1 < 40) then ZS.1 else bif decide ((Zd s 64).1 < 46) then ZS.1 else bif decide ((Zd s 64).1 < 50) then ZS.1 else bif decide ((Zd s 64).1 < 53) then ZS.1 else bif decide ((Zd s 64).1 < 55) then ZS.1 else bif (Zd s 64).1 == 55 then ZS.1 else bif decide ((Zd s 64).1 < 60) then ZS.1 else (Z5 (Zd s 64).2).1, bif decide ((Zd s 64).1 < 30) then ZS.2.1 else bif decide ((Zd s 64).1 < 36) then ZS.2.1 else decide ((Zd s 64).1 < 40) || bif decide ((Zd s 64).1 < 46) then ZS.2.1 else bif decide ((Zd s 64).1 < 50) then ZS.2.1 else bif decide ((Zd s 64).1 < 53) then ZS.2.1 else bif decide ((Zd s 64).1 < 55) then ZS.2.1 else bif (Zd s 64).1 == 55 then ZS.2.1 else bif decide ((Zd s 64).1 < 60) then ZS.2.1 else (Z5 (Z5 (Zd s 64).2).2).1, bif decide ((Zd s 64).1 < 30) then ZS.2.2.1 else bif decide ((Zd s 64).1 < 36) then ZS.2.2.1 else bif decide ((Zd s 64).1 < 40) then ZS.2.2.1 else bif decide ((Zd s 64).1 < 46) then ZS.2.2.1 else bif decide ((Zd s 64).1 < 50) then ZS.2.2.1 else bif decide ((Zd s 64).1 < 53) then ZS.2.2.1 else bif decide ((Zd s 64).1 < 55) then ZS.2.2.1 else (Zd s 64).1 == 55 || decide ((Zd s 64).1 < 60) && ZS.2.2.1, bif decide ((Zd s 64).1 < 30) then ZS.2.2.2.1 else bif decide ((Zd s 64).1 < 36) then ZS.2.2.2.1 else bif decide ((Zd s 64).1 < 40) then ZS.2.2.2.1 else bif decide ((Zd s 64).1 < 46) then ZS.2.2.2.1 else bif decide ((Zd s 64).1 < 50) then ZS.2.2.2.1 else bif decide ((Zd s 64).1 < 53) then (Zd s 64).1 == 51 else bif decide ((Zd s 64).1 < 55) then ZS.2.2.2.1 else bif (Zd s 64).1 == 55 then ZS.2.2.2.1 else bif decide ((Zd s 64).1 < 60) then ZS.2.2.2.1 else (Z5 (Z5 (Z5 (Zd s 64).2).2).2).1, bif decide ((Zd s 64).1 < 30) then ZS.2.2.2.2.1 else bif decide ((Zd s 64).1 < 36) then ZS.2.2.2.2.1 else bif decide ((Zd s 64).1 < 40) then ZS.2.2.2.2.1 else bif decide ((Zd s 64).1 < 46) then ZS.2.2.2.2.1 else bif decide ((Zd s 64).1 < 50) then ZS.2.2.2.2.1 else bif decide ((Zd s 64).1 < 53) then ZS.2.2.2.2.1 else decide ((Zd s 64).1 < 55) || bif (Zd s 64).1 == 55 then ZS.2.2.2.2.1 else decide ((Zd s 64).1 < 60) && ZS.2.2.2.2.1, bif decide ((Zd s 64).1 < 30) then ZS.2.2.2.2.2.1 else bif decide ((Zd s 64).1 < 36) then ZS.2.2.2.2.2.1 else bif decide ((Zd s 64).1 < 40) then ZS.2.2.2.2.2.1 else bif decide ((Zd s 64).1 < 46) then ZS.2.2.2.2.2.1 else bif decide ((Zd s 64).1 < 50) then Int.tmod (Zd s 64).1 2 == 0 else bif decide ((Zd s 64).1 < 53) then ZS.2.2.2.2.2.1 else bif decide ((Zd s 64).1 < 55) then ZS.2.2.2.2.2.1 else bif (Zd s 64).1 == 55 then ZS.2.2.2.2.2.1 else bif decide ((Zd s 64).1 < 60) then ZS.2.2.2.2.2.1 else (Z5 (Z5 (Z5 (Z5 (Zd s 64).2).2).2).2).1, bif decide ((Zd s 64).1 < 30) then ZS.2.2.2.2.2.2.1 else bif decide ((Zd s 64).1 < 36) then ZS.2.2.2.2.2.2.1 else bif decide ((Zd s 64).1 < 40) then ZS.2.2.2.2.2.2.1 else bif decide ((Zd s 64).1 < 46) then ZS.2.2.2.2.2.2.1 else bif decide ((Zd s 64).1 < 50) then Int.tmod (Zd s 64).1 2 == 1 else bif decide ((Zd s 64).1 < 53) then ZS.2.2.2.2.2.2.1 else bif decide ((Zd s 64).1 < 55) then ZS.2.2.2.2.2.2.1 else bif (Zd s 64).1 == 55 then ZS.2.2.2.2.2.2.1 else bif decide ((Zd s 64).1 < 60) then ZS.2.2.2.2.2.2.1 else (Z5 (Z5 (Z5 (Z5 (Z5 (Zd s 64).2).2).2).2).2).1, bif decide ((Zd s 64).1 < 30) then ZS.2.2.2.2.2.2.2.1 else bif decide ((Zd s 64).1 < 36) then ZS.2.2.2.2.2.2.2.1 else bif decide ((Zd s 64).1 < 40) then ZS.2.2.2.2.2.2.2.1 else bif decide ((Zd s 64).1 < 46) then ZS.2.2.2.2.2.2.2.1 else bif decide ((Zd s 64).1 < 50) then ZS.2.2.2.2.2.2.2.1 else decide ((Zd s 64).1 < 53) || bif decide ((Zd s 64).1 < 55) then ZS.2.2.2.2.2.2.2.1 else bif (Zd s 64).1 == 55 then ZS.2.2.2.2.2.2.2.1 else decide ((Zd s 64).1 < 60) && ZS.2.2.2.2.2.2.2.1, bif decide ((Zd s 64).1 < 30) then ZS.2.2.2.2.2.2.2.2.1 else bif decide ((Zd s 64).1 < 36) then ZS.2.2.2.2.2.2.2.2.1 else bif decide ((Zd s 64).1 < 40) then ZS.2.2.2.2.2.2.2.2.1 else bif decide ((Zd s 64).1 < 46) then u8.wrap (Zd (Zd s 64).2 256).1 else bif decide ((Zd s 64).1 < 50) then ZS.2.2.2.2.2.2.2.2.1 else bif decide ((Zd s 64).1 < 53) then ZS.2.2.2.2.2.2.2.2.1 else bif decide ((Zd s 64).1 < 55) then ZS.2.2.2.2.2.2.2.2.1 else bif (Zd s 64).1 == 55 then ZS.2.2.2.2.2.2.2.2.1 else bif decide ((Zd s 64).1 < 60) then 1 else u8.wrap x8.1, bif decide ((Zd s 64).1 < 30) then u8.wrap (Zd s 64).1 else bif decide ((Zd s 64).1 < 36) then ZS.2.2.2.2.2.2.2.2.2 else bif decide ((Zd s 64).1 < 40) then ZS.2.2.2.2.2.2.2.2.2 else bif decide ((Zd s 64).1 < 46) then ZS.2.2.2.2.2.2.2.2.2 else bif decide ((Zd s 64).1 < 50) then ZS.2.2.2.2.2.2.2.2.2 else bif decide ((Zd s 64).1 < 53) then ZS.2.2.2.2.2.2.2.2.2 else bif decide ((Zd s 64).1 < 55) then ZS.2.2.2.2.2.2.2.2.2 else bif (Zd s 64).1 == 55 then ZS.2.2.2.2.2.2.2.2.2 else bif decide ((Zd s 64).1 < 60) then (Zal (Zd s 64).2).1 else u8.wrap x21.1), bif decide ((Zd s 64).1 < 30) then (Zd s 64).2.1 else bif decide ((Zd s 64).1 < 36) then (Zd s 64).2.1 else bif decide ((Zd s 64).1 < 40) then (Zd s 64).2.1 else bif decide ((Zd s 64).1 < 46) then (Zd (Zd s 64).2 256).2.1 else bif decide ((Zd s 64).1 < 50) then (Zd s 64).2.1 else bif decide ((Zd s 64).1 < 53) then (Zd s 64).2.1 else bif decide ((Zd s 64).1 < 55) then (Zd s 64).2.1 else bif (Zd s 64).1 == 55 then (Zd s 64).2.1 else bif decide ((Zd s 64).1 < 60) then (Zal (Zd s 64).2).2.1 else x22.1, bif decide ((Zd s 64).1 < 30) then (Zd s 64).2.2 else bif decide ((Zd s 64).1 < 36) then (Zd s 64).2.2 else bif decide ((Zd s 64).1 < 40) then (Zd s 64).2.2 else bif decide ((Zd s 64).1 < 46) then (Zd (Zd s 64).2 256).2.2 else bif decide ((Zd s 64).1 < 50) then (Zd s 64).2.2 else bif decide ((Zd s 64).1 < 53) then (Zd s 64).2.2 else bif decide ((Zd s 64).1 < 55) then (Zd s 64).2.2 else bif (Zd s 64).1 == 55 then (Zd s 64).2.2 else bif decide ((Zd s 64).1 < 60) then (Zal (Zd s 64).2).2.2 else x22.2)))) (.leaf none)) (.leaf none)) (.leaf none)) (.leaf none)) (.leaf none)) (.leaf none)) (.leaf none)) (.leaf none)) (.leaf none)) (.leaf none)
def Zc9 (s : List Int × Int) : INPT × List Int × Int := getO (Ztm.dflt, Ztn.dflt) (Znk s).val
def Zg7 (s : List Int × Int) : Bool := okB (Znk s).val
def ZiX : Entry := boxE Ztn ZD0 Ztm (fun a => some (Zg7 a.1 )) (fun a => Zc9 a.1 )
theorem Znj : Zc Tryz.prog 135 ZiX :=
 Za8 (P := Tryz.prog) (n := 5036105318265824215071) (k := 8) (l := [(46, Zbl), (74, ZM4), (109, Zd5), (190, Zuc)]) (ol := []) ⟨ZaH, ZD2, ZeC, ZpV, trivial⟩ Tryz.func135 rfl (by kernel_rfl) Tryz.call135 trivial (rb := Ztn) (ts := ZD0) (rs := Ztm) (t := fun a => Znk a.1 ) (fun a => by kernel_rfl)
abbrev Zni : R := R.pair (R.sl (R.int i64)) (R.int i64)
abbrev Zwg : List Sh := [Sh.one (R.int i64)]
abbrev Znh : Rs := Rs.one (Sh.one (R.sl Zdi))
def ZHl : LS := { n := 39, slots := [(0, .fix (A.loc 0 0)), (5, .tip 0), (6, .code (Sh.one (R.int i64))), (7, .fix (A.loc 1 0)), (8, .code (Sh.one (R.int i64)))], boxes := [[.many (R.pair (R.sl (R.int i64)) (R.int i64))], [.many Zdi]], stgs := [⟨Zdi, 195, true⟩] }
def Zdt (a : QT14) : RT (Option (Go1 (QT14))) :=
 let x1 : List INPT := a.2.2.2.2.1 ++ [a.2.2.2.1]
 .br (decide (a.2.1 ≥ 0) && decide (iN (List.length a.2.2.2.2.1) < a.1)) (.br (Nat.ble (List.length x1) most) (.leaf (some (Go1.cont (a.1, i64.wrap (a.2.1 - 1), a.2.2.1, a.2.2.2.1, x1, PUnit.unit)))) (.leaf none)) (.leaf (some (Go1.brk (a.1, a.2.1, a.2.2.1, a.2.2.2.1, a.2.2.2.2.1, PUnit.unit))))
def Zgp : Ora := ZdV false ZHl Zdt (fun a => 400)
theorem Zjw : ZcS (envX Tryz.prog [(46, Zbl), (135, ZiX)] [] 511 8) (.block 2 (.loop (Zbc Tryz.f71.body 2))) Zgp :=
 Zaa (Zag (l := [(46, Zbl), (135, ZiX)]) ⟨ZaH, Znj, trivial⟩ [] 511 8) (ZO (by kernel_rfl)) (fun a => by kernel_rfl)
def ZHk : LS := { n := 39, slots := [(0, .fix (A.loc 0 0)), (5, .tip 0), (6, .code (Sh.one (R.int i64)))], boxes := [[.many (R.pair (R.sl (R.int i64)) (R.int i64))]], stgs := [⟨Zdi, 195, true⟩] }
def ZeD (a : QT22) : RT (Option (Go1 (QT22))) :=
 let x1 := !Zq (Zc9 a.2.1).2 4 || Zq (Zd (Zc9 a.2.1).2 4).2 5
 let x2 := !x1
 let x3 : QT14 := (a.1, i64.wrap ((Zd (Zc9 a.2.1).2 4).1 * (Zd (Zd (Zc9 a.2.1).2 4).2 5).1), (Zd (Zd (Zc9 a.2.1).2 4).2 5).2, (Zc9 a.2.1).1, a.2.2.1, ())
 let x4 := runF false Zdt (fun a_1 => 400) x3
 let x5 : QT14 := (getO (false, x3) x4).2
 let x6 := x5.2.2
 .br (decide (iN (List.length a.2.2.1) < a.1)) (.br (!Zg7 a.2.1 || (x2 || (!Zq (Zc9 a.2.1).2 4 || okB x4))) (.br (!Zg7 a.2.1 || (x2 || Zq (Zc9 a.2.1).2 4)) (.br (!Zg7 a.2.1 || x1) (.br (Zg7 a.2.1) (.leaf (some (Go1.cont (x5.1, x6.1, x6.2.2.1, PUnit.unit)))) (.leaf none)) (.leaf none)) (.leaf none)) (.leaf none)) (.leaf (some (Go1.brk (a.1, a.2.1, a.2.2.1, PUnit.unit))))
def Zpx : Ora := ZdV false ZHk ZeD (fun a => 400)
theorem Zwh : ZcS (envX Tryz.prog [(46, Zbl), (135, ZiX)] [(2, Zgp)] 511 8) (.block 0 (.loop (Zbc Tryz.f71.body 0))) Zpx :=
 Zaa (Zag (l := [(46, Zbl), (135, ZiX)]) ⟨ZaH, Znj, trivial⟩ [(2, Zgp)] 511 8) (Znx (by kernel_rfl) (by kernel_rfl) ⟨Zjw, trivial⟩) (fun a => by kernel_rfl)
def Zh6 (s : List Int × Int) (n : Int) : RT (Option (List INPT × List Int × Int)) :=
 let x1 : QT22 := ((Zd s (i64.wrap (n + 1))).1, (Zd s (i64.wrap (n + 1))).2, [], ())
 let x2 := runF false ZeD (fun a => 400) x1
 let x3 : (List Int × Int) × List INPT × PUnit := (getO (false, x1) x2).2.2
 .br (Zq s (i64.wrap (n + 1))) (.br (okB x2) (.leaf (some ((x3.2.1, x3.1)))) (.leaf none)) (.leaf none)
def ZbB (s : List Int × Int) (n : Int) : List INPT × List Int × Int := getO (Znh.dflt, Zni.dflt) (Zh6 s n).val
def ZeZ (s : List Int × Int) (n : Int) : Bool := okB (Zh6 s n).val
def ZDZ : Entry := boxE Zni Zwg Znh (fun a => some (ZeZ a.1 a.2)) (fun a => ZbB a.1 a.2)
theorem ZHi : Zc Tryz.prog 71 ZDZ :=
 Za8 (P := Tryz.prog) (n := 511) (k := 8) (l := [(46, Zbl), (135, ZiX)]) (ol := [(2, Zgp), (0, Zpx)]) ⟨ZaH, Znj, trivial⟩ Tryz.func71 rfl (by kernel_rfl) Tryz.call71 ⟨Zjw, Zwh, trivial⟩ (rb := Zni) (ts := Zwg) (rs := Znh) (t := fun a => Zh6 a.1 a.2) (fun a => by kernel_rfl)
abbrev ZAY : R := R.pair (R.sl (R.int i64)) (R.int i64)
abbrev ZM5 : List Sh := [Sh.one (R.int i64)]
abbrev ZAX : Rs := Rs.one (Sh.agg (R.pair Zx (R.pair (R.int i64) (R.pair (R.sl (R.int u8)) (R.pair (RY) (R.pair (R.int i64) R.bool))))))
def Zwi (s : List Int × Int) (n : Int) : RT (Option (CORT × List Int × Int)) :=
 .br (!ZfS s || (!ZeZ (Zaz s).2 n || (!Zhk (ZbB (Zaz s).2 n).1 || ZOi (Zaz s).1 (ZeN (ZbB (Zaz s).2 n).1)))) (.br (!ZfS s || (!ZeZ (Zaz s).2 n || Zhk (ZbB (Zaz s).2 n).1)) (.br (!ZfS s || ZeZ (Zaz s).2 n) (.br (ZfS s) (.leaf (some (((wRun (Zaz s).1 (ZeN (ZbB (Zaz s).2 n).1)).1.2.2.2.2.1, (ZbB (Zaz s).2 n).2)))) (.leaf none)) (.leaf none)) (.leaf none)) (.leaf none)
def Zbu (s : List Int × Int) (n : Int) : CORT × List Int × Int := getO (ZAX.dflt, ZAY.dflt) (Zwi s n).val
def Zwj (s : List Int × Int) (n : Int) : Bool := okB (Zwi s n).val
def Zh8 : Entry := boxE ZAY ZM5 ZAX (fun a => some (Zwj a.1 a.2)) (fun a => Zbu a.1 a.2)
theorem Zh7 : Zc Tryz.prog 22 Zh8 :=
 Za8 (P := Tryz.prog) (n := 127) (k := 8) (l := [(62, ZNf), (63, ZUN), (70, ZBE), (71, ZDZ)]) (ol := []) ⟨ZNc, ZSo, ZEG, ZHi, trivial⟩ Tryz.func22 rfl (by kernel_rfl) Tryz.call22 trivial (rb := ZAY) (ts := ZM5) (rs := ZAX) (t := fun a => Zwi a.1 a.2) (fun a => by kernel_rfl)
theorem NB.up {s : List Int × Int} {k j : Int} (h : NB s k) (hj : k ≤ j) : NB s j := ⟨h.1, by have := h.2; omega⟩
theorem Zci {s : List Int × Int} {k : Int} (h : NB s k) (hk : k ≤ 1000000) : ZaD s = true ∧ NB (Z5 s).2 (k + 1) := by
 obtain ⟨c1, b, _⟩ := ZB h hk 2 (by decide) (by decide)
 simp only [ZaD, Z5, ZD3, RT.val, c1, cond_true, okB, getO]
 exact ⟨trivial, b⟩
theorem Za4 {a b : Nat} (h : a ≤ b) : Nat.ble a b = true := by rw [Nat.ble_eq]; exact h
theorem ZAP {s : List Int × Int} {k : Int} (h : NB s k) (hk : k ≤ 500000) (n : Nat) (hn : n ≤ 100) :
  ZcY s (n : Int) = true ∧ NB (Za6 s (n : Int)).2 (k + 1 + 5 * n) ∧ (Za6 s (n : Int)).1.length ≤ n := by
 have hms := mst
 have w0 : IntKind.wrap .i64 ((n : Int) + 1) = (n : Int) + 1 := ZH _ (by omega) (by omega)
 obtain ⟨c1, b1, d0, d1⟩ := ZB h (by omega) ((n : Int) + 1) (by omega) (by omega)
 obtain ⟨L, N, hs1⟩ : ∃ L N, (L, N) = (Zd s ((n : Int) + 1)).2 := ⟨_, _, rfl⟩
 obtain ⟨q, hq⟩ : ∃ q : Nat, (Zd s ((n : Int) + 1)).1 = (q : Int) := ⟨_, (Int.toNat_of_nonneg d0).symm⟩
 rw [← hs1] at b1
 obtain ⟨r, hr, h1, L', N', o, hs', ho, hR⟩ := Zax (fl := false) (t := ZdK) (fuel := fun a => 400)
  (fun a => ∃ (i : Nat) (L : List Int) (N : Int) (o : List Zah), i ≤ q ∧ NB (L, N) (k + 1 + 5 * ((q - i : Nat) : Int)) ∧ o.length ≤ q - i ∧ a = ((i : Int), (L, N), o, ()))
  (fun a => Int.toNat a.1) (fun r => r.1 = false ∧ ∃ (L : List Int) (N : Int) (o : List Zah), NB (L, N) (k + 1 + 5 * (q : Int)) ∧ o.length ≤ q ∧ r.2 = ((0 : Int), (L, N), o, ()))
  (by
   rintro a ⟨i, L, N, o, hi, hs', ho, rfl⟩
   cases i with
   | zero =>
    right; left
    exact ⟨_, by simp only [ZdK, RT.val]; rfl, rfl, L, N, o, by simpa using hs', by omega, rfl⟩
   | succ i =>
    left
    have d : decide (((i + 1 : Nat) : Int) > 0) = true := decide_eq_true (by omega)
    obtain ⟨kw, bw, _⟩ := Ztg hs' (by omega)
    obtain ⟨k1, b1, e0, e1⟩ := ZB bw (by omega) 6 (by decide) (by decide)
    obtain ⟨k2, b2, _⟩ := ZB b1 (by omega) 3 (by decide) (by decide)
    obtain ⟨k3, b3, f0, f1⟩ := ZB b2 (by omega) 5 (by decide) (by decide)
    have r1 : Zg (Zd (Za2 (L, N)).2 6).1 6 = true := Zac.2 ⟨e0, e1⟩
    have r2 : Zg (Zd (Zd (Zd (Za2 (L, N)).2 6).2 3).2 5).1 5 = true := Zac.2 ⟨f0, f1⟩
    have hb : ∀ x : Zah, Nat.ble (o ++ [x]).length most = true := fun x => Za4 (by simp; omega)
    have w : IntKind.wrap .i64 (((i + 1 : Nat) : Int) - 1) = (i : Int) := by rw [ZH _ (by omega) (by omega)]; omega
    obtain ⟨o', ho'⟩ : ∃ o' : List Zah, o' = o ++ [((Za2 (L, N)).1, u16.wrap (if 65535 < i64.wrap (i64.wrap (Za2 (L, N)).1 + R.get (R.int i64) [0, 3, 15, 255, 4095, 65535] (Zd (Za2 (L, N)).2 6).1) then 65535 else i64.wrap (i64.wrap (Za2 (L, N)).1 + R.get (R.int i64) [0, 3, 15, 255, 4095, 65535] (Zd (Za2 (L, N)).2 6).1)), decide ((Zd (Zd (Za2 (L, N)).2 6).2 3).1 > 0), R.get (R.int i64) [0, 0, 1, 2, 5] (Zd (Zd (Zd (Za2 (L, N)).2 6).2 3).2 5).1)] := ⟨_, rfl⟩
    refine ⟨((i : Int), ((Zd (Zd (Zd (Za2 (L, N)).2 6).2 3).2 5).2.1, (Zd (Zd (Zd (Za2 (L, N)).2 6).2 3).2 5).2.2), o', ()), ?_, ⟨i, _, _, o', by omega, b3.up (by omega), by rw [ho']; simp; omega, rfl⟩, by simp only; omega⟩
    simp only [ZdK, RT.val, List.length_cons, List.length_nil, Nat.reduceAdd, d, kw, k1, k2, k3, r1, r2, hb, w, ho', cond_true, Bool.not_true, Bool.false_or, Bool.or_true, Bool.or_false])
  ((q : Int), (L, N), [], ()) ⟨q, L, N, [], Nat.le_refl _, by simpa using b1, by simp, rfl⟩ (by simp only; omega)
 obtain ⟨r1, r2⟩ := r
 simp only at h1 hR
 subst h1 hR
 have hv : (ZfO s (n : Int)).val = some (o, L', N') := by
  simp only [ZfO, RT.val, w0, c1, hq, ← hs1, hr, okB, getO, cond_true]
 simp only [ZcY, Za6, hv, okB, getO]
 exact ⟨trivial, hs'.up (by omega), by omega⟩
theorem ZUW {l : List Cell} (h : l.length ≤ 1000) : smC l = true := Za4 (by have := mst; omega)
theorem ZQ5 {l : List Int} (h : l.length ≤ 1000) : smB l = true := Za4 (by have := mst; omega)
theorem ZMV {s : List Int × Int} {k : Int} (h : NB s k) (hk : k ≤ 400000) : ZHh s = true ∧ NB (nMap s).2 (k + 20) ∧ (nMap s).1.length ≤ 3 := by
 obtain ⟨c1, b1, l1⟩ := ZAP h (by omega) 2 (by omega)
 have c1 : ZcY s 2 = true := c1
 have b1 : NB (Za6 s 2).2 (k + 1 + 5 * ((2 : Nat) : Int)) := b1
 have l1 : (Za6 s 2).1.length ≤ 2 := l1
 obtain ⟨c2, b2, _⟩ := ZB b1 (by omega) 3 (by decide) (by decide)
 have hs : ∀ x : Zah, Nat.ble ((Za6 s 2).1 ++ [x]).length most = true := fun x => Za4 (by have := mst; simp; omega)
 have hg : ∀ l : List Zah, Stg.l (newG ZeA ZeB l) = l := fun _ => rfl
 have hv : (ZMW s).val = some ((Za6 s 2).1 ++ [(0, 65535, true, IntKind.wrap .i64 (Int.tdiv (Zd (Za6 s 2).2 3).1 2))], (Zd (Za6 s 2).2 3).2) := by
  simp only [ZMW, RT.val, hg, c1, c2, hs, Bool.not_true, Bool.false_or, Bool.or_true, cond_true]
 refine ⟨by simp only [ZHh, hv]; rfl, ?_, ?_⟩
 ·simp only [nMap, hv, getO]; exact b2.up (by omega)
 ·simp only [nMap, hv, getO]; simp; omega
theorem ZAR {s : List Int × Int} {k : Int} (h : NB s k) (hk : k ≤ 300000) (n : Nat) (hn : n ≤ 20) :
  ZfQ s (n : Int) = true ∧ NB (ZbK s (n : Int)).2 (k + 1 + 10 * n) ∧ (ZbK s (n : Int)).1.length ≤ 12 * n := by
 have hms := mst
 have w0 : IntKind.wrap .i64 ((n : Int) + 1) = (n : Int) + 1 := ZH _ (by omega) (by omega)
 obtain ⟨c1, b1, d0, d1⟩ := ZB h (by omega) ((n : Int) + 1) (by omega) (by omega)
 obtain ⟨s1, hs1⟩ : ∃ s1, s1 = (Zd s ((n : Int) + 1)).2 := ⟨_, rfl⟩
 obtain ⟨q, hq⟩ : ∃ q : Nat, (Zd s ((n : Int) + 1)).1 = (q : Int) := ⟨_, (Int.toNat_of_nonneg d0).symm⟩
 rw [← hs1] at b1
 obtain ⟨r, hr, h1, s', o, hs', ho, hR⟩ := Zax (fl := false) (t := ZcC) (fuel := fun a => 400)
  (fun a => ∃ (i : Nat) (s' : List Int × Int) (o : List Int), i ≤ q ∧ NB s' (k + 1 + 10 * ((q - i : Nat) : Int)) ∧ o.length ≤ 12 * (q - i) ∧ a = ((i : Int), s', o, ()))
  (fun a => Int.toNat a.1) (fun r => r.1 = false ∧ ∃ (s' : List Int × Int) (o : List Int), NB s' (k + 1 + 10 * (q : Int)) ∧ o.length ≤ 12 * q ∧ r.2 = ((0 : Int), s', o, ()))
  (by
   rintro a ⟨i, s', o, hi, hs', ho, rfl⟩
   cases i with
   | zero =>
    right; left
    exact ⟨_, by simp only [ZcC, RT.val]; rfl, rfl, s', o, by simpa using hs', by omega, rfl⟩
   | succ i =>
    left
    have d : decide (((i + 1 : Nat) : Int) > 0) = true := decide_eq_true (by omega)
    have w : IntKind.wrap .i64 (((i + 1 : Nat) : Int) - 1) = (i : Int) := by rw [ZH _ (by omega) (by omega)]; omega
    obtain ⟨k0, b0, _⟩ := ZB hs' (by omega) 8 (by decide) (by decide)
    obtain ⟨k1, b1, e0, e1⟩ := ZB b0 (by omega) 4 (by decide) (by decide)
    obtain ⟨k2, b2, _⟩ := ZB b1 (by omega) 256 (by decide) (by decide)
    obtain ⟨k3, b3, f0, f1⟩ := ZB b2 (by omega) 4 (by decide) (by decide)
    obtain ⟨k4, b4, _⟩ := Zcj b0 (by omega)
    obtain ⟨k5, b5, _⟩ := ZB b4 (by omega) 8 (by decide) (by decide)
    obtain ⟨k6, b6, _⟩ := ZB b0 (by omega) 16 (by decide) (by decide)
    obtain ⟨k7, b7, _⟩ := Zcj b6 (by omega)
    obtain ⟨k8, b8, _⟩ := ZiW b0 (by omega)
    obtain ⟨k9, b9, _⟩ := ZB b8 (by omega) 64 (by decide) (by decide)
    obtain ⟨ka, ba, g0, g1⟩ := ZB b9 (by omega) 4 (by decide) (by decide)
    have r1 : Zg (Zd (Zd s' 8).2 4).1 4 = true := Zac.2 ⟨e0, e1⟩
    have r2 : Zg (Zd (Zd (Zd (Zd s' 8).2 4).2 256).2 4).1 4 = true := Zac.2 ⟨f0, f1⟩
    have r3 : Zg (Zd (Zd (Zal (Zd s' 8).2).2 64).2 4).1 4 = true := Zac.2 ⟨g0, g1⟩
    have hb : ∀ x : List Int, x.length ≤ 12 → Nat.ble (o ++ x).length most = true := fun x hx => Za4 (by rw [List.length_append]; omega)
    have q1 : ∀ a b c : Int, Nat.ble (o ++ [a, b, c]).length most = true := fun a b c => hb _ (by simp)
    have q2 : ∀ a b c d : Int, Nat.ble (o ++ [a, b, c, d]).length most = true := fun a b c d => hb _ (by simp)
    have q3 : ∀ a : Int, Nat.ble (o ++ [a]).length most = true := fun a => hb _ (by simp)
    have q4 : ∀ a b c d e f g h i j k l : Int, Nat.ble (o ++ [a, b, c, d, e, f, g, h, i, j, k, l]).length most = true := fun a b c d e f g h i j k l => hb _ (by simp)
    have hv : ∃ s2 x, x.length ≤ 12 ∧ NB s2 (k + 1 + 10 * ((q - i : Nat) : Int)) ∧ (ZcC (((i + 1 : Nat) : Int), s', o, ())).val = some (Go1.cont ((i : Int), s2, o ++ x, ())) := by
     simp only [ZcC, RT.val, List.length_cons, List.length_nil, Nat.reduceAdd, d, w, k0, k1, k2, k3, k4, k5, k6, k7, k8, k9, ka, r1, r2, r3, q1, q2, q3, q4, cond_true, Bool.not_true, Bool.false_or, Bool.or_true, Bool.or_false]
     cases (Zd s' 8).1 == 0
     ·cases (Zd s' 8).1 == 1
      ·cases (Zd s' 8).1 == 2
       ·cases (Zd s' 8).1 == 3
        ·exact ⟨_, [(Zal (Zd s' 8).2).1, IntKind.wrap .u8 (Zd (Zal (Zd s' 8).2).2 64).1, R.get (R.int .u8) [0, 0, 1, 255] (Zd (Zd (Zal (Zd s' 8).2).2 64).2 4).1], by simp, ba.up (by omega), rfl⟩
        ·exact ⟨_, [62, IntKind.wrap .u8 (IntKind.wrap .i64 (16 + (Zd (Zd s' 8).2 16).1)), 211, 0, 62, (Zm (Zd (Zd s' 8).2 16).2).1, 211, 1, 62, 0, 211, 1], by simp, b7.up (by omega), rfl⟩
       ·exact ⟨_, [251], by simp, b0.up (by omega), rfl⟩
      ·exact ⟨_, [62, (Zm (Zd s' 8).2).1, 211, IntKind.wrap .u8 (Zd (Zm (Zd s' 8).2).2 8).1], by simp, b5.up (by omega), rfl⟩
     ·exact ⟨_, [R.get (R.int .u8) [33, 49, 1, 17] (Zd (Zd s' 8).2 4).1, IntKind.wrap .u8 (Zd (Zd (Zd s' 8).2 4).2 256).1, R.get (R.int .u8) [0, 0, 1, 255] (Zd (Zd (Zd (Zd s' 8).2 4).2 256).2 4).1], by simp, b3.up (by omega), rfl⟩
    obtain ⟨s2, x, hx, hs2, hv⟩ := hv
    exact ⟨_, hv, ⟨i, s2, o ++ x, by omega, hs2, by rw [List.length_append]; omega, rfl⟩, by simp only; omega⟩)
  ((q : Int), s1, [], ()) ⟨q, s1, [], Nat.le_refl _, by simpa using b1, by simp, rfl⟩ (by simp only; omega)
 obtain ⟨r1, r2⟩ := r
 simp only at h1 hR
 subst h1 hR
 have hv : (ZfP s (n : Int)).val = some (o, s') := by
  simp only [ZfP, RT.val, w0, c1, hq, ← hs1, hr, okB, getO, cond_true]
 simp only [ZfQ, ZbK, hv, okB, getO]
 exact ⟨trivial, hs'.up (by omega), by omega⟩
theorem ZUk {s : List Int × Int} {k : Int} (h : NB s k) (hk : k ≤ 300000) : ZNa s = true ∧ NB (nCPU s).2 (k + 40) ∧ (nCPU s).1.2.2.2.2.1 = false := by
 obtain ⟨c0, b0, _⟩ := ZD5 h (by omega)
 obtain ⟨c1, b1, _⟩ := ZQh b0 (by omega) (ZN s).1
 obtain ⟨c2, b2⟩ := Zci b1 (by omega)
 obtain ⟨c3, b3, _⟩ := ZB b2 (by omega) 5 (by decide) (by decide)
 obtain ⟨c4, b4, _⟩ := ZB b3 (by omega) 8 (by decide) (by decide)
 obtain ⟨c5, b5, _⟩ := ZB b4 (by omega) 5 (by decide) (by decide)
 obtain ⟨c6, b6⟩ := Zci b5 (by omega)
 obtain ⟨c7, b7⟩ := Zci b6 (by omega)
 obtain ⟨c8, b8⟩ := Zci b7 (by omega)
 obtain ⟨c9, b9, _⟩ := ZB b8 (by omega) 4 (by decide) (by decide)
 obtain ⟨ca, ba⟩ := Zci b9 (by omega)
 obtain ⟨cb, bb⟩ := Zci ba (by omega)
 have hv : ∃ c s', (ZM7 s).val = some (c, s') ∧ NB s' (k + 40) ∧ c.2.2.2.2.1 = false := by
  simp only [ZM7, RT.val, c0, c1, c2, c3, c4, c5, c6, c7, c8, c9, ca, cb, cond_true, Bool.not_true, Bool.false_or, Bool.or_true]
  cases (ZN s).1 == 2
  ·exact ⟨_, _, rfl, b3.up (by omega), rfl⟩
  ·exact ⟨_, _, rfl, bb.up (by omega), rfl⟩
 obtain ⟨c, s', hv, h1, h2⟩ := hv
 simp only [ZNa, nCPU, hv, okB, getO]
 exact ⟨trivial, h1, h2⟩
theorem ZwB (t : Int) (b : List Int) : (Zoe t b).length ≤ b.length := by
 have := ZdJ (ZnB t b b.length)
 rw [ZnA] at this
 exact this
theorem ZMZ {s : List Int × Int} {k : Int} (h : NB s k) (hk : k ≤ 300000) : Zg7 s = true ∧ NB (Zc9 s).2 (k + 20) := by
 obtain ⟨c1, b1, _⟩ := ZB h (by omega) 64 (by decide) (by decide)
 obtain ⟨c2, b2, _⟩ := ZB b1 (by omega) 256 (by decide) (by decide)
 obtain ⟨c3, b3, _⟩ := ZiW b1 (by omega)
 obtain ⟨f1, g1⟩ := Zci b1 (by omega)
 obtain ⟨f2, g2⟩ := Zci g1 (by omega)
 obtain ⟨f3, g3⟩ := Zci g2 (by omega)
 obtain ⟨f4, g4⟩ := Zci g3 (by omega)
 obtain ⟨f5, g5⟩ := Zci g4 (by omega)
 obtain ⟨c4, b4, _⟩ := ZB g5 (by omega) 256 (by decide) (by decide)
 obtain ⟨c5, b5, _⟩ := ZB b4 (by omega) 256 (by decide) (by decide)
 have hv : ∃ c s', (Znk s).val = some (c, s') ∧ NB s' (k + 20) := by
  simp only [Znk, RT.val, c1, c2, c3, c4, c5, f1, f2, f3, f4, f5, cond_true, Bool.not_true, Bool.false_or, Bool.or_true, Bool.or_false]
  cases decide ((Zd s 64).1 < 30) with
  | true => exact ⟨_, _, rfl, b1.up (by omega)⟩
  | false =>
  cases decide ((Zd s 64).1 < 36) with
  | true => exact ⟨_, _, rfl, b1.up (by omega)⟩
  | false =>
  cases decide ((Zd s 64).1 < 40) with
  | true => exact ⟨_, _, rfl, b1.up (by omega)⟩
  | false =>
  cases decide ((Zd s 64).1 < 46) with
  | true => exact ⟨_, _, rfl, b2.up (by omega)⟩
  | false =>
  cases decide ((Zd s 64).1 < 50) with
  | true => exact ⟨_, _, rfl, b1.up (by omega)⟩
  | false =>
  cases decide ((Zd s 64).1 < 53) with
  | true => exact ⟨_, _, rfl, b1.up (by omega)⟩
  | false =>
  cases decide ((Zd s 64).1 < 55) with
  | true => exact ⟨_, _, rfl, b1.up (by omega)⟩
  | false =>
  cases ((Zd s 64).1 == 55) with
  | true => exact ⟨_, _, rfl, b1.up (by omega)⟩
  | false =>
  cases decide ((Zd s 64).1 < 60) with
  | true => exact ⟨_, _, rfl, b3.up (by omega)⟩
  | false => exact ⟨_, _, rfl, b5.up (by omega)⟩
 obtain ⟨c, s', hv, h1⟩ := hv
 simp only [Zg7, Zc9, hv, okB, getO]
 exact ⟨trivial, h1⟩
theorem ZUv (s : List Int × Int) (z : Int) (c : INPT) (kk : Nat) (hk : kk < 300) (o : List INPT) (size : Nat) (ho : o.length ≤ size) (hz : size ≤ 300) :
  ∃ k2 o2, runF false Zdt (fun _ => 400) ((size : Int), (kk : Int), s, c, o, ()) = some (false, (size : Int), k2, s, c, o2, ()) ∧ o2.length ≤ size ∧ o.length ≤ o2.length ∧ (o.length < size → o.length < o2.length) := by
 have hms := mst
 obtain ⟨r, hr, h1, k2, o2, e1, e2, e3, e4⟩ := Zax (fl := false) (t := Zdt) (fuel := fun _ => 400)
  (fun a => ∃ (j : Nat) (o2 : List INPT), j ≤ kk + 1 ∧ o2.length ≤ size ∧ o.length ≤ o2.length ∧ (j = kk + 1 ∨ o.length < o2.length) ∧ a = ((size : Int), (j : Int) - 1, s, c, o2, ()))
  (fun a => Int.toNat (a.2.1 + 1)) (fun r => r.1 = false ∧ ∃ k2 o2, r.2 = ((size : Int), k2, s, c, o2, ()) ∧ o2.length ≤ size ∧ o.length ≤ o2.length ∧ (o.length < size → o.length < o2.length))
  (by
   rintro a ⟨j, o2, hj, h2, h3, h4, rfl⟩
   have w : ∀ j : Nat, j ≤ 1000 → IntKind.wrap .i64 (((j : Nat) : Int) - 1 - 1) = (j : Int) - 1 - 1 := fun j hj => ZH _ (by omega) (by omega)
   by_cases hc : 1 ≤ j ∧ o2.length < size
   ·left
    have d1 : decide (((j : Nat) : Int) - 1 ≥ 0) = true := decide_eq_true (by omega)
    have d2 : decide (iN o2.length < (size : Int)) = true := decide_eq_true (by simp only [iN]; omega)
    have hb : Nat.ble (o2 ++ [c]).length most = true := Za4 (by simp; omega)
    refine ⟨((size : Int), (j : Int) - 1 - 1, s, c, o2 ++ [c], ()), ?_, ⟨j - 1, o2 ++ [c], by omega, by simp; omega, by simp; omega, by right; simp; omega, ?_⟩, by simp only; omega⟩
    ·simp only [Zdt, RT.val, d1, d2, hb, Bool.and_self, cond_true, w j (by omega)]
    ·have : ((j : Nat) : Int) - 1 = ((j - 1 : Nat) : Int) := by omega
     rw [this]
   ·right; left
    have d : (decide (((j : Nat) : Int) - 1 ≥ 0) && decide (iN o2.length < (size : Int))) = false := by
     simp only [iN, Bool.and_eq_false_iff, decide_eq_false_iff_not]
     omega
    exact ⟨((size : Int), (j : Int) - 1, s, c, o2, ()), by simp only [Zdt, RT.val, d, cond_false], rfl, _, o2, rfl, h2, h3, fun h => by
     rcases h4 with h4 | h4
     ·omega
     ·exact h4⟩)
  ((size : Int), (kk : Int), s, c, o, ()) ⟨kk + 1, o, Nat.le_refl _, ho, Nat.le_refl _, .inl rfl, by
   have : (kk : Int) = ((kk + 1 : Nat) : Int) - 1 := by omega
   rw [← this]⟩ (by simp only; omega)
 obtain ⟨r1, r2⟩ := r
 simp only at h1 e1
 subst h1 e1
 exact ⟨k2, o2, hr, e2, e3, e4⟩
theorem ZHj {s : List Int × Int} {k : Int} (h : NB s k) (hk : k ≤ 100000) (n : Nat) (hn : n ≤ 250) :
  ZeZ s (n : Int) = true ∧ NB (ZbB s (n : Int)).2 (k + 1 + 30 * n) ∧ (ZbB s (n : Int)).1.length ≤ n := by
 have hms := mst
 have w0 : IntKind.wrap .i64 ((n : Int) + 1) = (n : Int) + 1 := ZH _ (by omega) (by omega)
 obtain ⟨c1, b1, d0, d1⟩ := ZB h (by omega) ((n : Int) + 1) (by omega) (by omega)
 obtain ⟨s1, hs1⟩ : ∃ s1, s1 = (Zd s ((n : Int) + 1)).2 := ⟨_, rfl⟩
 obtain ⟨q, hq⟩ : ∃ q : Nat, (Zd s ((n : Int) + 1)).1 = (q : Int) := ⟨_, (Int.toNat_of_nonneg d0).symm⟩
 rw [← hs1] at b1
 obtain ⟨r, hr, h1, s', o, hs', ho, hR⟩ := Zax (fl := false) (t := ZeD) (fuel := fun a => 400)
  (fun a => ∃ (s' : List Int × Int) (o : List INPT), NB s' (k + 1 + 30 * (o.length : Int)) ∧ o.length ≤ q ∧ a = ((q : Int), s', o, ()))
  (fun a => Int.toNat a.1 - a.2.2.1.length) (fun r => r.1 = false ∧ ∃ (s' : List Int × Int) (o : List INPT), NB s' (k + 1 + 30 * (q : Int)) ∧ o.length ≤ q ∧ r.2 = ((q : Int), s', o, ()))
  (by
   rintro a ⟨s', o, hs', ho, rfl⟩
   by_cases hc : o.length < q
   ·left
    have d : decide (iN o.length < (q : Int)) = true := decide_eq_true (by simp only [iN]; omega)
    obtain ⟨i1, g1⟩ := ZMZ hs' (by omega)
    obtain ⟨i2, g2, m0, m1⟩ := ZB g1 (by omega) 4 (by decide) (by decide)
    obtain ⟨i3, g3, m2, m3⟩ := ZB g2 (by omega) 5 (by decide) (by decide)
    obtain ⟨x, hx⟩ : ∃ x : Nat, (Zd (Zc9 s').2 4).1 = (x : Int) := ⟨_, (Int.toNat_of_nonneg m0).symm⟩
    obtain ⟨y, hy⟩ : ∃ y : Nat, (Zd (Zd (Zc9 s').2 4).2 5).1 = (y : Int) := ⟨_, (Int.toNat_of_nonneg m2).symm⟩
    have hxy : x * y ≤ 3 * 4 := Nat.mul_le_mul (by omega) (by omega)
    have w : IntKind.wrap .i64 ((x : Int) * (y : Int)) = ((x * y : Nat) : Int) := by
     rw [show (x : Int) * (y : Int) = ((x * y : Nat) : Int) by simp, ZH _ (by omega) (by omega)]
    obtain ⟨k2, o2, hr, e2, e3, e4⟩ := ZUv (Zd (Zd (Zc9 s').2 4).2 5).2 0 (Zc9 s').1 (x * y) (by omega) o q ho (by omega)
    have e5 := e4 hc
    refine ⟨((q : Int), (Zd (Zd (Zc9 s').2 4).2 5).2, o2, ()), ?_, ⟨_, o2, g3.up (by omega), e2, rfl⟩, by simp only; omega⟩
    simp only [ZeD, RT.val, d, i1, i2, i3, hx, hy, w, hr, okB, getO, cond_true, Bool.not_true, Bool.false_or, Bool.or_true, Bool.or_false]
   ·right; left
    have d : decide (iN o.length < (q : Int)) = false := decide_eq_false (by simp only [iN]; omega)
    exact ⟨_, by simp only [ZeD, RT.val, d, cond_false], rfl, s', o, hs'.up (by omega), ho, rfl⟩)
  ((q : Int), s1, [], ()) ⟨s1, [], by simpa using b1, by simp, rfl⟩ (by simp only [List.length_nil]; omega)
 obtain ⟨r1, r2⟩ := r
 simp only at h1 hR
 subst h1 hR
 have hv : (Zh6 s (n : Int)).val = some (o, s') := by
  simp only [Zh6, RT.val, w0, c1, hq, ← hs1, hr, okB, getO, cond_true]
 simp only [ZeZ, ZbB, hv, okB, getO]
 exact ⟨trivial, hs'.up (by omega), by omega⟩
theorem ZNd {s : List Int × Int} {k : Int} (h : NB s k) (hk : k ≤ 10000) :
  ZfS s = true ∧ NB (Zaz s).2 (k + 300) ∧ (∃ s1, NB s1 (k + 1) ∧ (Zaz s).1.2.1 = (nMap s1).1) ∧ ((Zaz s).1.1 = 1 ∨ (Zaz s).1.1 = 2) ∧
   (0 ≤ (Zaz s).1.2.2.1 ∧ (Zaz s).1.2.2.1 ≤ 2) ∧ ∃ l : List Cell, l.length ≤ 200 ∧ (Zaz s).1.2.2.2.2.2.2 = normX l := by
 have hms := mst
 obtain ⟨c0, b0, hch⟩ := ZD5 h (by omega)
 obtain ⟨c1, b1, l1⟩ := ZMV b0 (by omega)
 obtain ⟨c2, b2, w0, w1⟩ := ZB b1 (by omega) 3 (by decide) (by decide)
 obtain ⟨c3, b3, _⟩ := ZB b2 (by omega) 4 (by decide) (by decide)
 obtain ⟨c4, b4, _⟩ := ZB b3 (by omega) 6 (by decide) (by decide)
 obtain ⟨c5, b5, _⟩ := Zcj b4 (by omega)
 obtain ⟨c6, b6, _⟩ := Zcj b5 (by omega)
 obtain ⟨s2, hs2, b7⟩ : ∃ s2, s2 = ((bif (Zd (Zd (Zd (nMap (ZN s).2).2 3).2 4).2 6).1 == 0 then (Zm (Zm (Zd (Zd (Zd (nMap (ZN s).2).2 3).2 4).2 6).2).2).2.1 else (Zd (Zd (Zd (nMap (ZN s).2).2 3).2 4).2 6).2.1,
   bif (Zd (Zd (Zd (nMap (ZN s).2).2 3).2 4).2 6).1 == 0 then (Zm (Zm (Zd (Zd (Zd (nMap (ZN s).2).2 3).2 4).2 6).2).2).2.2 else (Zd (Zd (Zd (nMap (ZN s).2).2 3).2 4).2 6).2.2) : List Int × Int) ∧ NB s2 (k + 30) := by
  refine ⟨_, rfl, ?_⟩
  cases (Zd (Zd (Zd (nMap (ZN s).2).2 3).2 4).2 6).1 == 0
  ·exact b4.up (by omega)
  ·exact b6.up (by omega)
 obtain ⟨c8, b8, l8⟩ := ZAR b7 (by omega) 12 (by omega)
 have c8 : ZfQ s2 12 = true := c8
 have b8 : NB (ZbK s2 12).2 (k + 30 + 1 + 10 * ((12 : Nat) : Int)) := b8
 have l8 : (ZbK s2 12).1.length ≤ 12 * 12 := l8
 obtain ⟨c9, b9, d0, d1⟩ := ZB b8 (by omega) 4 (by decide) (by decide)
 have hl := ZwB 0 (ZbK s2 12).1
 obtain ⟨q, hq⟩ : ∃ q : Nat, (Zd (ZbK s2 12).2 4).1 = (q : Int) := ⟨_, (Int.toNat_of_nonneg d0).symm⟩
 have hg : ∀ l : List Cell, Stg.l (newG Zgf Zgg l) = l := fun _ => rfl
 have key : ∀ x y z : BRDT, ∀ o : List Cell, o.length ≤ 144 → ∃ s' o', NB s' (k + 200) ∧ o'.length ≤ 200 ∧
   runF false ZeE (fun _ => 400) ((q : Int), (Zd (ZbK s2 12).2 4).2, x, y, o, ()) = some (false, 0, s', x, y, o', ()) := by
  intro x y z o ho
  obtain ⟨r, hr, h1, s', o', g1, g2, g3⟩ := Zax (fl := false) (t := ZeE) (fuel := fun _ => 400)
   (fun a => ∃ (i : Nat) (s' : List Int × Int) (o : List Cell), i ≤ q ∧ NB s' (k + 30 + 1 + 10 * ((12 : Nat) : Int) + 1 + 4 * ((q - i : Nat) : Int)) ∧ o.length ≤ 144 + 3 * (q - i) ∧ a = ((i : Int), s', x, y, o, ()))
   (fun a => Int.toNat a.1) (fun r => r.1 = false ∧ ∃ s' o', NB s' (k + 200) ∧ o'.length ≤ 200 ∧ r.2 = (0, s', x, y, o', ()))
   (by
    rintro a ⟨i, s', o, hi, hs', ho, rfl⟩
    cases i with
    | zero =>
     right; left
     exact ⟨_, by simp only [ZeE, RT.val]; rfl, rfl, s', o, hs'.up (by omega), by omega, rfl⟩
    | succ i =>
     left
     have d : decide (((i + 1 : Nat) : Int) > 0) = true := decide_eq_true (by omega)
     have w : IntKind.wrap .i64 (((i + 1 : Nat) : Int) - 1) = (i : Int) := by rw [ZH _ (by omega) (by omega)]; omega
     obtain ⟨k0, b0, e0, e1⟩ := ZB hs' (by omega) 6 (by decide) (by decide)
     obtain ⟨k1, b1, _⟩ := ZiW b0 (by omega)
     have r1 : Zg (Zd s' 6).1 6 = true := Zac.2 ⟨e0, e1⟩
     have hsb : ∀ a b c : Int, smB [a, b, c] = true := fun a b c => ZQ5 (by simp)
     have hll := ZwB (IntKind.wrap .u16 (R.get (R.int .i64) [36, 60, 52, 44, 56, 32] (Zd s' 6).1)) [(Zal (Zd s' 6).2).1, 251, 201]
     simp only [List.length_cons, List.length_nil] at hll
     have hb : Nat.ble (o ++ Zoe (IntKind.wrap .u16 (R.get (R.int .i64) [36, 60, 52, 44, 56, 32] (Zd s' 6).1)) [(Zal (Zd s' 6).2).1, 251, 201]).length most = true := Za4 (by rw [List.length_append]; omega)
     refine ⟨((i : Int), (Zal (Zd s' 6).2).2, x, y, o ++ Zoe (IntKind.wrap .u16 (R.get (R.int .i64) [36, 60, 52, 44, 56, 32] (Zd s' 6).1)) [(Zal (Zd s' 6).2).1, 251, 201], ()), ?_, ⟨i, _, _, by omega, b1.up (by omega), by rw [List.length_append]; omega, rfl⟩, by simp only; omega⟩
     simp only [ZeE, RT.val, hg, List.length_cons, List.length_nil, Nat.reduceAdd, d, w, k0, k1, r1, hsb, hb, cond_true, Bool.not_true, Bool.false_or, Bool.or_true, Bool.or_false])
   ((q : Int), (Zd (ZbK s2 12).2 4).2, x, y, o, ()) ⟨q, _, o, Nat.le_refl _, b9.up (by omega), by omega, rfl⟩ (by simp only; omega)
  obtain ⟨r1, r2⟩ := r
  simp only at h1 g3
  subst h1 g3
  exact ⟨s', o', g1, g2, hr⟩
 obtain ⟨s', o', g1, g2, hr⟩ := key (0, [], 0, 0, 0, false, []) ((ZN s).1, (nMap (ZN s).2).1, (Zd (nMap (ZN s).2).2 3).1, bif (Zd (Zd (Zd (nMap (ZN s).2).2 3).2 4).2 6).1 == 0 then (Zm (Zd (Zd (Zd (nMap (ZN s).2).2 3).2 4).2 6).2).1 else 0,
  bif (Zd (Zd (Zd (nMap (ZN s).2).2 3).2 4).2 6).1 == 0 then (Zm (Zm (Zd (Zd (Zd (nMap (ZN s).2).2 3).2 4).2 6).2).2).1 else 4, (Zd (Zd (nMap (ZN s).2).2 3).2 4).1 == 0, []) (0, [], 0, 0, 0, false, []) (Zoe 0 (ZbK s2 12).1) (by omega)
 have hsc : smC o' = true := ZUW (by omega)
 have hsb : smB (ZbK s2 12).1 = true := ZQ5 (by omega)
 have hv : ∃ p d, (Znm s).val = some (((ZN s).1, (nMap (ZN s).2).1, (Zd (nMap (ZN s).2).2 3).1, p, d, (Zd (Zd (nMap (ZN s).2).2 3).2 4).1 == 0, normX o'), s') := by
  refine ⟨bif (Zd (Zd (Zd (nMap (ZN s).2).2 3).2 4).2 6).1 == 0 then (Zm (Zd (Zd (Zd (nMap (ZN s).2).2 3).2 4).2 6).2).1 else 0,
   bif (Zd (Zd (Zd (nMap (ZN s).2).2 3).2 4).2 6).1 == 0 then (Zm (Zm (Zd (Zd (Zd (nMap (ZN s).2).2 3).2 4).2 6).2).2).1 else 4, ?_⟩
  simp only [Znm, RT.val, hg, ← hs2, c0, c1, c2, c3, c4, c5, c6, c8, c9, hsb, hq, hr, hsc, okB, getO, cond_true, Bool.not_true, Bool.false_or, Bool.or_true, Bool.or_false]
 obtain ⟨p, d, hv⟩ := hv
 have e1 : ZfS s = true := by simp only [ZfS, hv]; rfl
 have e2 : Zaz s = (((ZN s).1, (nMap (ZN s).2).1, (Zd (nMap (ZN s).2).2 3).1, p, d, (Zd (Zd (nMap (ZN s).2).2 3).2 4).1 == 0, normX o'), s') := by simp only [Zaz, hv, getO]
 rw [e2]
 exact ⟨e1, g1.up (by omega), ⟨_, b0, rfl⟩, hch, ⟨w0, by show (Zd (nMap (ZN s).2).2 3).1 ≤ 2; omega⟩, o', g2, rfl⟩
theorem ZSA (s : Int) {l : Int} (h : 0 ≤ l) : vOnC s l = true := by
 simp only [vOnC, vOnT, RT.val, decide_eq_true h, cond_true, okB]
theorem Zp9 (s k : Int) : Zou s k = true ∧ -1 ≤ ZgS s k ∧ ZgS s k ≤ 7 := by
 obtain ⟨r, hr, h0, h1, h2⟩ := Zax (fl := false) (t := Zho) (fuel := fun _ => 9)
  (fun a => ∃ (i : Nat) (m : Int), i ≤ 8 ∧ -1 ≤ m ∧ m ≤ 7 ∧ a = (s, k, m, (i : Int), ()))
  (fun a => Int.toNat (8 - a.2.2.2.1)) (fun r => r.1 = false ∧ -1 ≤ r.2.2.2.1 ∧ r.2.2.2.1 ≤ 7)
  (by
   rintro a ⟨i, m, hi, h1, h2, rfl⟩
   by_cases hlt : i < 8
   ·left
    have d : decide ((i : Int) < 8) = true := decide_eq_true (by omega)
    have w : IntKind.wrap .i64 ((i : Int) + 1) = ((i + 1 : Nat) : Int) := by rw [ZH _ (by omega) (by omega)]; omega
    have c : vOnC s (i : Int) = true := ZSA s (by omega)
    refine ⟨(s, k, bif vOn s (i : Int) && (decide (m < 0) || decide (Zis (i : Int) k < Zis m k)) then (i : Int) else m, ((i + 1 : Nat) : Int), ()), by simp only [Zho, RT.val, d, c, w, cond_true], ⟨i + 1, _, by omega, ?_, ?_, rfl⟩, by simp only; omega⟩
    ·cases vOn s (i : Int) && (decide (m < 0) || decide (Zis (i : Int) k < Zis m k)) <;> simp only [cond_true, cond_false] <;> omega
    ·cases vOn s (i : Int) && (decide (m < 0) || decide (Zis (i : Int) k < Zis m k)) <;> simp only [cond_true, cond_false] <;> omega
   ·right; left
    have d : decide ((i : Int) < 8) = false := decide_eq_false (by omega)
    exact ⟨(s, k, m, (i : Int), ()), by simp only [Zho, RT.val, d, cond_false], rfl, h1, h2⟩)
  (s, k, -1, 0, ()) ⟨0, -1, by omega, by omega, by omega, rfl⟩ (by simp only; omega)
 obtain ⟨r1, r2⟩ := r
 simp only at h0 h1 h2
 subst h0
 have hv : (Zut s k).val = some r2.2.2.1 := by simp only [Zut, RT.val, hr, okB, getO, cond_true]
 exact ⟨by simp only [Zou, hv]; rfl, by simp only [ZgS, hv, getO]; exact h1, by simp only [ZgS, hv, getO]; exact h2⟩
theorem Zxn (p : PICT) : ZEM p = true ∧ -1 ≤ vPck p ∧ vPck p ≤ 7 := by
 have key : ∀ r m s k q, ∃ v : Int, (Zus r m s k q).val = some v ∧ -1 ≤ v ∧ v ≤ 7 := by
  intro r m s k q
  have h1 := Zp9 (Zb2 .u8 r m) k
  have h2 := Zp9 (Zjm m s q) k
  simp only [Zus, RT.val, h1.1, h2.1, cond_true]
  cases decide (ZgS (Zb2 .u8 r m) k ≥ 0) && (decide (ZgS (Zjm m s q) k < 0) || decide (Zis (ZgS (Zb2 .u8 r m) k) k < Zis (ZgS (Zjm m s q) k) k))
  ·exact ⟨-1, rfl, by omega, by omega⟩
  ·exact ⟨_, rfl, h1.2.1, h1.2.2⟩
 obtain ⟨v, hv, h1, h2⟩ := key (vReq p) p.2.2.2.2.2.2.2.2.2.2.2.2.2.2.2.1 p.2.2.2.2.2.2.2.2.2.2.2.2.2.2.1 p.2.2.2.2.2.2.2.2.2.2.2.2.2.2.2.2.1 p.2.2.2.2.2.2.2.2.2.1
 have e : (ZIE p).val = some v := by simp only [ZIE, RT.val, ZID, ZSy, hv, okB, getO, cond_true]
 exact ⟨by simp only [ZEM, e]; rfl, by simp only [vPck, e, getO]; exact h1, by simp only [vPck, e, getO]; exact h2⟩
theorem ZSD (p : PICT) : ZOA p = true := by simp only [ZOA, ZOz, RT.val, (Zxn p).1, cond_true, okB]
theorem ZBR (p : PICT) {x : Int} (h : 0 ≤ x) : ZkA p x = true := by simp only [ZkA, ZBS, RT.val, decide_eq_true h, cond_true, okB]
theorem ZB7 (p : PICT) {x : Int} (h : 0 ≤ x) : ZkE p x = true := by simp only [ZkE, ZB8, RT.val, decide_eq_true h, cond_true, okB]
theorem ZSG (p : PICT) : ZOD p = true := by
 have h1 := (Zxn p).1
 have h3 : ∀ q : PICT, ZkE q (andI .i64 p.2.2.2.2.2.2.2.2.2.2.2.2.2.2.2.2.2.2.1 7) = true := fun q => ZB7 q (and7 _).1
 have h2 : ∀ q : PICT, (!decide (vPck p ≥ 0) || ZkA q (vPck p)) = true := fun q => by
  by_cases h : vPck p ≥ 0
  ·rw [ZBR q h, Bool.or_true]
  ·rw [decide_eq_false h]; rfl
 unfold ZOD ZOC
 simp only [RT.val, h1, h2, h3, Bool.or_true, cond_true]
 cases p.2.2.2.2.2.2.2.2.2.2.2.2.2.2.2.2.2.1 == 0
 ·cases p.2.2.2.2.2.2.2.2.2.2.2.2.2.2.2.2.2.1 == 1
  ·rfl
  ·cases p.2.2.1 <;> rfl
 ·rfl
theorem ZOt (p : PICT) (h : Bool) : ZBV p h = true := by
 have h1 := (Zxn p).1
 unfold ZBV ZBT
 by_cases hx : 0 ≤ vPck p
 ·have h2 : ∀ q : PICT, ZkA q (vPck p) = true := fun q => ZBR q hx
  have h3 : ∀ q : PICT, ZkE q (vPck p) = true := fun q => ZB7 q hx
  simp only [RT.val, h1, h2, h3, ZdH, Zcf, Bool.or_true, Bool.not_true, cond_true]
  cases h
  ·cases p.2.2.2.2.2.2.2.2.2.2.2.1
   ·cases p.2.2.2.2.2.2.2.2.2.2.1 <;> rfl
   ·cases decide (vPck p < 0) <;> rfl
  ·rfl
 ·have h2 : decide (vPck p < 0) = true := decide_eq_true (by omega)
  simp only [RT.val, h1, h2, ZdH, Zcf, Bool.or_true, Bool.true_or, Bool.not_true, cond_true]
  cases h
  ·cases p.2.2.2.2.2.2.2.2.2.2.2.1
   ·cases p.2.2.2.2.2.2.2.2.2.2.1 <;> rfl
   ·rfl
  ·rfl
theorem ZOy (p : PICT) (v : Int) : ZB0 p v = true := by
 have h1 := fun s k => (Zp9 s k).1
 have h2 : ∀ x : Int, (!decide (x ≥ 0) || decide (0 ≤ x)) = true := fun x => by by_cases h : 0 ≤ x <;> simp [h]
 have h3 : decide (0 ≤ IntKind.wrap .i64 (andI .u8 v 7)) = true := by
  have := and7b v
  rw [ZH _ (by omega) (by omega)]; exact decide_eq_true this.1
 unfold ZB0 ZBZ
 simp only [RT.val, h1, h2, h3, ZdH, Zcf, Bool.or_true, Bool.not_true, cond_true]
 rfl
theorem ZIm (p : PICT) (h : Bool) (v : Int) : Zp4 p h v = true := by
 unfold Zp4 Zp2
 simp only [RT.val, ZOy, Bool.or_true, cond_true]
 cases h
 ·cases andI .u8 v 16 != 0
  ·cases andI .u8 v 8 == 0 <;> rfl
  ·rfl
 ·rfl
theorem ZIu (d : QT6) (r : Int) : Zp7 d r = true := by
 have h := and3 r
 have h1 : decide (0 ≤ andI .i64 r 3 ∧ andI .i64 r 3 < 4) = true := decide_eq_true ⟨h.1, by omega⟩
 simp only [Zp7, Zp5, RT.val, h1, cond_true, okB]
theorem ZdX (o : Bool) {n : Int} (h : 0 ≤ n) : Zkx o n = true := by
 simp only [Zkx, ZOq, RT.val, decide_eq_true h, Bool.or_true, cond_true]
 cases o <;> rfl
theorem ZEH (l : List INPT) (hl : l.length ≤ 1000) : Zhk l = true ∧ (ZeN l).length = 4 * l.length := by
 have hms := mst
 obtain ⟨r, hr, h0, h1⟩ := Zax (fl := false) (t := Zdq) (fuel := fun _ => 1000000000000)
  (fun a => ∃ (i : Nat) (o : List Int), i ≤ l.length ∧ o.length = 4 * i ∧ a = (l, (l.length : Int), (i : Int), o, ()))
  (fun a => Int.toNat (a.2.1 - a.2.2.1)) (fun r => r.1 = false ∧ r.2.2.2.2.1.length = 4 * l.length)
  (by
   rintro a ⟨i, o, hi, ho, rfl⟩
   by_cases hlt : i < l.length
   ·left
    have d : decide ((i : Int) < (l.length : Int)) = true := decide_eq_true (by omega)
    have d2 : decide ((i : Int) ≥ 65536) = false := decide_eq_false (by omega)
    have hin : Zg (i : Int) l.length = true := Zac.2 ⟨by omega, by omega⟩
    have w : IntKind.wrap .i64 ((i : Int) + 1) = ((i + 1 : Nat) : Int) := by rw [ZH _ (by omega) (by omega)]; omega
    have hb : ∀ a b c d : Int, Nat.ble (o ++ [a, b, c, d]).length most = true := fun a b c d => Za4 (by simp; omega)
    have b0 := fun x => ZdX x (n := 0) (by decide)
    have b1 := fun x => ZdX x (n := 1) (by decide)
    have b2 := fun x => ZdX x (n := 2) (by decide)
    have b3 := fun x => ZdX x (n := 3) (by decide)
    have b4 := fun x => ZdX x (n := 4) (by decide)
    have b5 := fun x => ZdX x (n := 5) (by decide)
    have b6 := fun x => ZdX x (n := 6) (by decide)
    have b7 := fun x => ZdX x (n := 7) (by decide)
    have hv : ∃ a b c d : Int, (Zdq (l, (l.length : Int), (i : Int), o, ())).val = some (Go1.cont (l, (l.length : Int), ((i + 1 : Nat) : Int), o ++ [a, b, c, d], ())) := by
     simp only [Zdq, RT.val, d, d2, hin, w, hb, b0, b1, b2, b3, b4, b5, b6, b7, ZdH, Zcf, Bool.or_true, Bool.not_true, Bool.false_or, Bool.or_false, cond_true, cond_false]
     exact ⟨_, _, _, _, rfl⟩
    obtain ⟨a, b, c, d, hv⟩ := hv
    exact ⟨_, hv, ⟨i + 1, _, by omega, by simp; omega, rfl⟩, by simp only; omega⟩
   ·right; left
    have d : decide ((i : Int) < (l.length : Int)) = false := decide_eq_false (by omega)
    exact ⟨(l, (l.length : Int), (i : Int), o, ()), by simp only [Zdq, RT.val, d, cond_false], rfl, by simp only; omega⟩)
  (l, (l.length : Int), 0, [], ()) ⟨0, [], by omega, rfl, rfl⟩ (by simp only; omega)
 obtain ⟨r1, r2⟩ := r
 simp only at h0 h1
 subst h0
 have hv : (Zhj l).val = some r2.2.2.2.1 := by simp only [Zhj, RT.val, iN, hr, okB, getO, cond_true]
 exact ⟨by simp only [Zhk, hv]; rfl, by simp only [ZeN, hv, getO]; exact h1⟩
theorem Zon (l : List Int) (hl : l.length ≤ 4000) : Zj0 l = true ∧ (Za1 l).length = l.length / 4 := by
 have hms := mst
 obtain ⟨r, hr, h0, h1⟩ := Zax (fl := false) (t := Zcv) (fuel := fun _ => 1000000000000)
  (fun a => ∃ (i : Nat) (o : List INPT), 4 * i ≤ l.length ∧ o.length = i ∧ a = (l, ((4 * i : Nat) : Int), o, ()))
  (fun a => Int.toNat (l.length - a.2.1)) (fun r => r.1 = false ∧ r.2.2.2.1.length = l.length / 4)
  (by
   rintro a ⟨i, o, hi, ho, rfl⟩
   have w1 : IntKind.wrap .i64 (((4 * i : Nat) : Int) + 1) = ((4 * i + 1 : Nat) : Int) := by rw [ZH _ (by omega) (by omega)]; omega
   have w2 : IntKind.wrap .i64 (((4 * i : Nat) : Int) + 2) = ((4 * i + 2 : Nat) : Int) := by rw [ZH _ (by omega) (by omega)]; omega
   have w3 : IntKind.wrap .i64 (((4 * i : Nat) : Int) + 3) = ((4 * i + 3 : Nat) : Int) := by rw [ZH _ (by omega) (by omega)]; omega
   have w4 : IntKind.wrap .i64 (((4 * i : Nat) : Int) + 4) = ((4 * (i + 1) : Nat) : Int) := by rw [ZH _ (by omega) (by omega)]; omega
   by_cases hlt : 4 * i + 4 ≤ l.length
   ·left
    have d : (decide (((4 * (i + 1) : Nat) : Int) ≤ iN l.length) && decide (iN o.length < 65536)) = true := by
     simp only [iN, Bool.and_eq_true, decide_eq_true_eq]; omega
    have i0 : Zg ((4 * i : Nat) : Int) l.length = true := Zac.2 ⟨by omega, by omega⟩
    have i1 : Zg ((4 * i + 1 : Nat) : Int) l.length = true := Zac.2 ⟨by omega, by omega⟩
    have i2 : Zg ((4 * i + 2 : Nat) : Int) l.length = true := Zac.2 ⟨by omega, by omega⟩
    have i3 : Zg ((4 * i + 3 : Nat) : Int) l.length = true := Zac.2 ⟨by omega, by omega⟩
    have hb : ∀ a : INPT, Nat.ble (o ++ [a]).length most = true := fun a => Za4 (by simp; omega)
    have hv : ∃ x : INPT, (Zcv (l, ((4 * i : Nat) : Int), o, ())).val = some (Go1.cont (l, ((4 * (i + 1) : Nat) : Int), o ++ [x], ())) := by
     simp only [Zcv, RT.val, w1, w2, w3, w4, d, i0, i1, i2, i3, hb, ZdH, Zcf, Bool.or_true, Bool.not_true, Bool.false_or, Bool.or_false, cond_true, cond_false]
     cases R.get (R.int .u8) l ((4 * i + 3 : Nat) : Int) != ZBJ (R.get (R.int .u8) l ((4 * i : Nat) : Int)) (R.get (R.int .u8) l ((4 * i + 1 : Nat) : Int)) (R.get (R.int .u8) l ((4 * i + 2 : Nat) : Int))
     ·exact ⟨_, rfl⟩
     ·exact ⟨_, rfl⟩
    obtain ⟨x, hv⟩ := hv
    exact ⟨_, hv, ⟨i + 1, _, by omega, by simp; omega, rfl⟩, by simp only; omega⟩
   ·right; left
    have d : (decide (((4 * (i + 1) : Nat) : Int) ≤ iN l.length) && decide (iN o.length < 65536)) = false := by
     simp only [iN, Bool.and_eq_false_iff, decide_eq_false_iff_not]; left; omega
    exact ⟨(l, ((4 * i : Nat) : Int), o, ()), by simp only [Zcv, RT.val, w4, d, cond_false], rfl, by simp only; omega⟩)
  (l, 0, [], ()) ⟨0, [], by omega, rfl, rfl⟩ (by simp only; omega)
 obtain ⟨r1, r2⟩ := r
 simp only at h0 h1
 subst h0
 have hv : (Zhl l).val = some r2.2.2.1 := by simp only [Zhl, RT.val, hr, okB, getO, cond_true]
 exact ⟨by simp only [Zj0, hv]; rfl, by simp only [Za1, hv, getO]; exact h1⟩
abbrev MacT := List Zah × List Cell × List Int × List (Int × Int)
end
end Go.Proofs.YtghoimllhpjkjaaGreat
