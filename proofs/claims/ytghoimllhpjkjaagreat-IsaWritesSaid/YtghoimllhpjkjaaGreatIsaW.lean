/-
  Laws of the interpreter over a made scene. Conditions: none.
-/
import Derived.Test.YtghoimllhpjkjaaGreatS3D
import Derived.Test.YtghoimllhpjkjaaGreatProg
import Derived.Test.YtghoimllhpjkjaaGreatIsaK
open Go.IntKind (u8 u16 i64)
set_option linter.unusedSimpArgs false
open Go Go.S3 Go.Proofs
set_option linter.unusedVariables false
set_option maxRecDepth 100000
namespace Go.Proofs.YtghoimllhpjkjaaGreat
noncomputable section
def ZbQ : Entry := .tree (ZI (envX Tryz.prog [] [] 7 8) Tryz.f21)
theorem Zfm : Zb Tryz.prog 21 ZbQ := Zab (P := Tryz.prog) (n := 7) (k := 8) (l := []) (ol := []) trivial Tryz.func21 rfl (by kernel_rfl) Tryz.call21 trivial
def ZaQ : Entry := .tree (ZI (envX Tryz.prog [(21, ZbQ), (23, ZKB), (32, ZnW), (46, ZbG), (47, Zk7), (95, ZKy), (96, Zvq)] [] 1023 8) Tryz.f36)
theorem Zb1 : Zb Tryz.prog 36 ZaQ := Zab (P := Tryz.prog) (n := 1023) (k := 8) (l := [(21, ZbQ), (23, ZKB), (32, ZnW), (46, ZbG), (47, Zk7), (95, ZKy), (96, Zvq)]) (ol := []) ⟨Zfm, ZKz, ZyC, Za0, Zvf, ZKw, ZD4, trivial⟩ Tryz.func36 rfl (by kernel_rfl) Tryz.call36 trivial
abbrev ZrN : List Sh := [Sh.one (R.sl (R.int i64)), Sh.one (R.int u16)]
abbrev Zlu : Rs := Rs.one (Sh.one R.bool)
def Zz3 : LS := { n := 109, slots := [(1, .code (Sh.one (R.int u16))), (6, .fix (A.loc 3 0)), (7, .code (Sh.one rcRG)), (8, .tip 0), (10, .code (Sh.one rcCE)), (12, .code (Sh.one (R.sl (R.int u8)))), (13, .code (Sh.one R.bool)), (40, .code (Sh.one (R.int i64))), (41, .code (Sh.one (R.int i64)))], boxes := [[.code (.int i64), .code (.int u8), .code (.int u8), .code (.int u8), .code (.int u8), .code (.int u8), .code (.int u8), .code (.int u8), .code .bool, .code .bool, .code .bool, .code .bool, .code .bool, .code .bool, .code .bool, .code (.int u16), .code (.int u16), .code .bool, .code .bool, .code .bool, .code (.int u8), .code .bool, .code .bool, .code .bool, .code .bool, .code .bool, .code .bool, .code .bool], [.code (.sl (R.int i64)), .code (.int i64)], [.code (.int i64), .code (.int u8), .code (.int u8), .code (.int u8), .code (.int u8), .code (.int u8), .code (.int u8), .code (.int u8), .code .bool, .code .bool, .code .bool, .code .bool, .code .bool, .code .bool, .code .bool, .code (.int u16), .code (.int u16), .code .bool, .code .bool, .code .bool, .code (.int u8), .code .bool, .code .bool, .code .bool, .code .bool, .code .bool, .code .bool, .code .bool], [.many ZaT], [.many ZaT]], stgs := [⟨R.pair (R.int u16) (R.int u8), 106, true⟩] }
def ZcU (a : QT2) : RT (Option (Go1 (QT2))) :=
 let x1 := a.2.2.2.2.2.2.2.2.2.2.2.2.2
 let x2 := x1.2
 let x3 := x2.2
 let x4 := x3.2
 let x5 := x4.2
 let x6 := x5.2
 let x7 := x6.2
 let x8 := x7.2
 let x9 := x8.2
 let x10 := x9.2
 let x11 := x10.2
 let x12 := x11.2
 let x13 := x12.2
 let x14 := x13.2
 let x15 := x14.2
 let x16 := x15.2
 let x17 := x16.2
 let x18 := x17.2
 let x19 := x18.2
 let x20 := x19.2
 let x21 := x20.2
 let x22 := x21.2
 let x23 := x22.2
 let x24 := x23.2
 let x25 := x24.2
 let x26 := x25.2
 let x27 := x26.2
 let x28 := x27.2
 let x29 := x28.2
 let x30 := x29.2
 let x31 := x30.2
 let x32 := x31.2
 let x33 := x32.2
 let x34 := x33.2
 let x35 := x34.2
 let x36 := x35.2
 let x37 := x36.2
 let x38 := x37.2
 let x39 := x38.2
 let x40 := x39.2
 let x41 := x40.2
 let x42 := x41.2
 let x43 := x42.2
 let x44 := x43.2
 let x45 := x44.2
 let x46 := x45.2
 let x47 := x46.2
 let x48 := x47.2
 let x49 := x48.2
 let x50 := x49.2
 let x51 := x50.2
 let x52 := x51.2
 let x53 := x52.2
 let x54 := x53.1
 let x55 := Zi x54 0 (subL a.2.2.2.1 0 a.2.2.2.2.2.2.1)
 let x56 := x55.1
 let x57 := x56.1
 let x58 := x53.2
 let x59 : Int × Int × Int × Int × Int × Int × Int × Int × Bool × Bool × Bool × Bool × Bool × Bool × Bool × Int × Int × Bool × Bool × Bool × Int × Bool × Bool × Bool × Bool × Bool × Bool × Bool × List Int × Int × Int × Int × Int × Int × Int × Int × Int × Int × Bool × Bool × Bool × Bool × Bool × Bool × Bool × Int × Int × Bool × Bool × Bool × Int × Bool × Bool × Bool × Bool × Bool × Bool × Bool × TC × TC × List (Int × Int) × PUnit := (a.2.2.2.2.2.2.2.1, a.2.2.2.2.2.2.2.2.1, a.2.2.2.2.2.2.2.2.2.1, a.2.2.2.2.2.2.2.2.2.2.1, a.2.2.2.2.2.2.2.2.2.2.2.1, a.2.2.2.2.2.2.2.2.2.2.2.2.1, x1.1, x2.1, x3.1, x4.1, x5.1, x6.1, x7.1, x8.1, x9.1, x10.1, x11.1, x12.1, x13.1, x14.1, x15.1, x16.1, x17.1, x18.1, x19.1, x20.1, x21.1, x22.1, x23.1, x24.1, x25.1, x26.1, x27.1, x28.1, x29.1, x30.1, x31.1, x32.1, x33.1, x34.1, x35.1, x36.1, x37.1, x38.1, x39.1, x40.1, x41.1, x42.1, x43.1, x44.1, x45.1, x46.1, x47.1, x48.1, x49.1, x50.1, x51.1, x52.1, x54, x58.1, x58.2.1, PUnit.unit)
 .br (decide (a.2.2.2.2.2.2.1 < a.2.2.2.2.2.1)) (.br (decide (0 ≤ 0) && decide (0 ≤ a.2.2.2.2.2.2.1) && (decide (a.2.2.2.2.2.2.1 = 0) || decide (a.2.2.2.2.2.2.1 ≤ iN (List.length a.2.2.2.1)))) (.leaf (some (Go1.cont (a.1, a.2.1, a.2.2.1, a.2.2.2.1, a.2.2.2.2.1 || x55.2 && (x56.2.1 == a.1 && (x57 == 3 || x57 == 5)), a.2.2.2.2.2.1, i64.wrap (a.2.2.2.2.2.2.1 + 1), x59)))) (.leaf none)) (.leaf (some (Go1.brk (a.1, a.2.1, a.2.2.1, a.2.2.2.1, a.2.2.2.2.1, a.2.2.2.2.2.1, a.2.2.2.2.2.2.1, x59))))
def ZmW : Ora := Zbq false Zz3 ZcU (fun a => 1000)
theorem ZrO : Za5 (envX Tryz.prog [(31, kKnE), (35, ZjW), (36, ZaQ), (37, ZpQ), (42, ZwH), (43, ZnZ), (44, ZdU)] [] 262143 8) (.block 0 (.loop (Z5 Tryz.f8.body 0))) ZmW :=
 Zw (ZB (l := [(31, kKnE), (35, ZjW), (36, ZaQ), (37, ZpQ), (42, ZwH), (43, ZnZ), (44, ZdU)]) ⟨ZIT, ZjV, Zb1, ZrX, ZwG, ZqT, Ze6, trivial⟩ [] 262143 8) (Zn (by kernel_rfl)) (fun a => by kernel_rfl)
def ZgE (n : List Int) (t : Int) : RT (Option (Bool)) :=
 let x1 := smB (Zad (nMap (Zd (nCPU (n, 0)).2 8).2).2 10).1
 let x2 := !x1
 let x3 := Zlc (Zad (nMap (Zd (nCPU (n, 0)).2 8).2).2 10).2 6
 let x4 := Zfv (Zad (nMap (Zd (nCPU (n, 0)).2 8).2).2 10).2 6
 let x5 : List (Int × Int) := Stg.l (newG Zf9 Zga (ZfN 0 (Zad (nMap (Zd (nCPU (n, 0)).2 8).2).2 10).1)) ++ x4.1
 let x6 := !Zcp (nMap (Zd (nCPU (n, 0)).2 8).2).2 10 || (x2 || (!x3 || Nat.ble (List.length x5) most))
 let x7 := !x6
 let p1 := x7 :: (!Zvk (Zd (nCPU (n, 0)).2 8).2) :: (!Zr (nCPU (n, 0)).2 8) :: (!Zpz (n, 0)) :: []
 let x8 := !Zcp (nMap (Zd (nCPU (n, 0)).2 8).2).2 10 || (x2 || x3)
 let x9 := !x8
 let p2 := x9 :: p1
 let x10 := !Zcp (nMap (Zd (nCPU (n, 0)).2 8).2).2 10 || x1
 let p4 := (!x10) :: p2
 let x11 : Int := (nCPU (n, 0)).1.2.1.2.2.2.2.2.2.1
 let x12 : TF × Int × Int := (nCPU (n, 0)).1.2.1.2.2.2.2.2.2.2
 let x13 := x12.1
 let x14 := x12.2.1
 let x15 : TC := ((nCPU (n, 0)).1.1, ((nCPU (n, 0)).1.2.1.1, (nCPU (n, 0)).1.2.1.2.1, (nCPU (n, 0)).1.2.1.2.2.1, (nCPU (n, 0)).1.2.1.2.2.2.1, (nCPU (n, 0)).1.2.1.2.2.2.2.1, (nCPU (n, 0)).1.2.1.2.2.2.2.2.1, x11, x13, x14, u16.wrap (Zd (nCPU (n, 0)).2 8).1), (nCPU (n, 0)).1.2.2)
 let x16 : QT18 := ZfC x15 (nMap (Zd (nCPU (n, 0)).2 8).2).1 x5 0 [] (false, false, false, false, false, false, false, false, false)
 let x17 := x16.2
 let x18 := x17.2.2
 let x19 := x13.1
 let x20 := x13.2
 let x21 := x20.1
 let x22 := x20.2
 let x23 := x22.1
 let x24 := x22.2
 let x25 := x24.1
 let x26 := x24.2
 let x27 := x26.1
 let x28 := x26.2
 let x29 := x28.1
 let x30 := x28.2
 let x31 := (nCPU (n, 0)).1.2.2.2.2.2.2.2.2.1
 let x32 : Bool × Bool × Bool × Bool := (nCPU (n, 0)).1.2.2.2.2.2.2.2.2.2
 let x33 := x32.1
 let x34 := x32.2
 let x35 := x34.1
 let x36 := x34.2
 let x37 := x36.1
 let x38 := x36.2
 let x39 := x4.2
 let x40 : QT2 := (t, (nMap (Zd (nCPU (n, 0)).2 8).2).1, x17.1, x18, false, iN (List.length x18), 0, (nCPU (n, 0)).1.1, (nCPU (n, 0)).1.2.1.1, (nCPU (n, 0)).1.2.1.2.1, (nCPU (n, 0)).1.2.1.2.2.1, (nCPU (n, 0)).1.2.1.2.2.2.1, (nCPU (n, 0)).1.2.1.2.2.2.2.1, (nCPU (n, 0)).1.2.1.2.2.2.2.2.1, x11, x19, x21, x23, x25, x27, x29, x30, x14, u16.wrap (Zd (nCPU (n, 0)).2 8).1, (nCPU (n, 0)).1.2.2.1, (nCPU (n, 0)).1.2.2.2.1, (nCPU (n, 0)).1.2.2.2.2.1, (nCPU (n, 0)).1.2.2.2.2.2.1, (nCPU (n, 0)).1.2.2.2.2.2.2.1, (nCPU (n, 0)).1.2.2.2.2.2.2.2.1, x31, x33, x35, x37, x38, x39.1, x39.2, (nCPU (n, 0)).1.1, (nCPU (n, 0)).1.2.1.1, (nCPU (n, 0)).1.2.1.2.1, (nCPU (n, 0)).1.2.1.2.2.1, (nCPU (n, 0)).1.2.1.2.2.2.1, (nCPU (n, 0)).1.2.1.2.2.2.2.1, (nCPU (n, 0)).1.2.1.2.2.2.2.2.1, x11, x19, x21, x23, x25, x27, x29, x30, x14, u16.wrap (Zd (nCPU (n, 0)).2 8).1, (nCPU (n, 0)).1.2.2.1, (nCPU (n, 0)).1.2.2.2.1, (nCPU (n, 0)).1.2.2.2.2.1, (nCPU (n, 0)).1.2.2.2.2.2.1, (nCPU (n, 0)).1.2.2.2.2.2.2.1, (nCPU (n, 0)).1.2.2.2.2.2.2.2.1, x31, x33, x35, x37, x38, x15, x16.1, x5, ())
 let x41 := runF false ZcU (fun a => 1000) x40
 let x42 : QT2 := (getO (false, x40) x41).2
 let x43 := x42.2
 let x44 := x43.1
 let x45 := x43.2
 let x46 := x45.2.2
 let x47 := !x46.1
 let x48 := x42.1
 let x49 := Zaq x44 x48
 let x50 := decide (x49 < 0)
 let x51 := x47 || (x50 || !(R.get (R.pair (R.int u16) (R.pair (R.int u16) (R.pair R.bool (R.int i64)))) x44 x49).2.2.1)
 let x52 := !x51
 let x53 := x45.1
 let x54 := smC x53
 let x55 := !x54
 let x56 := x46.2.2.2.2.2.2.2.2.2.2.2.2.2.2.2.2.2.2.2.2.2.2.2.2.2.2.2.2.2.2.2.2.2.2.2.2.2.2.2.2.2.2.2.2.2.2.2.2.2.2.2.2.2.2.2.2.2.2.2.2.2.2.2.1
 let x57 := smC x56
 let x58 := !x57
 let x59 := Cells.getX x53 x48 == Cells.getX x56 x48
 let x60 := !x59
 let x61 := x60 || x54
 let p3 := x60 :: (!x61) :: x58 :: x55 :: x52 :: []
 let x62 := vldB x53
 let x63 := !x62 || kKnC
 let x64 := x62 && kKn
 .br (!decide (iN (List.length n) > 150) || kKnC) (.br (decide (iN (List.length n) > 150)) (.leaf (some (true))) (.br (orR p4 (Zcp (nMap (Zd (nCPU (n, 0)).2 8).2).2 10)) (.br (orR p2 x10) (.br (orR p1 x8) (.br (!Zpz (n, 0) || (!Zr (nCPU (n, 0)).2 8 || (!Zvk (Zd (nCPU (n, 0)).2 8).2 || x6))) (.br (!Zpz (n, 0) || (!Zr (nCPU (n, 0)).2 8 || Zvk (Zd (nCPU (n, 0)).2 8).2)) (.br (!Zpz (n, 0) || Zr (nCPU (n, 0)).2 8) (.br (Zpz (n, 0)) (.br (smG (nMap (Zd (nCPU (n, 0)).2 8).2).1 && ZsE x5) (.br (okB x41) (.br (smG x44) (.br (x47 || (x50 || Zf x49 (List.length x44))) (.br (orR p3 x63) (.br (x52 || (x55 || (x58 || x61))) (.br (x52 || (x55 || x57)) (.br (x52 || x54) (.br (x51) (.leaf (some (x59 && x64))) (.br (x55 || x63) (.br (x54) (.leaf (some (x64))) (.leaf none)) (.leaf none))) (.leaf none)) (.leaf none)) (.leaf none)) (.leaf none)) (.leaf none)) (.leaf none)) (.leaf none)) (.leaf none)) (.leaf none)) (.leaf none)) (.leaf none)) (.leaf none)) (.leaf none)) (.leaf none)) (.leaf none))) (.leaf none)
def Zvz (n : List Int) (t : Int) : Bool := getO Zlu.dflt (ZgE n t).val
def ZpM (n : List Int) (t : Int) : Bool := okB (ZgE n t).val
def ZHd : Entry := Zm ZrN Zlu (fun a => some (ZpM a.1 a.2)) (fun a => Zvz a.1 a.2)
theorem lWrites_ok : Zb Tryz.prog 8 ZHd :=
 pureP 262143 [(31, kKnE), (35, ZjW), (36, ZaQ), (37, ZpQ), (42, ZwH), (43, ZnZ), (44, ZdU)] [(0, ZmW)] ZrN Zlu ⟨ZIT, ZjV, Zb1, ZrX, ZwG, ZqT, Ze6, trivial⟩ Tryz.func8 Tryz.call8 ⟨ZrO, trivial⟩ (t := fun a => ZgE a.1 a.2) (fun a => by kernel_rfl)
end
end Go.Proofs.YtghoimllhpjkjaaGreat
open Go Go.S3 Go.Proofs Go.Proofs.Cells
namespace Go.Proofs.YtghoimllhpjkjaaGreat
noncomputable section
section
variable {c : CpuT} {m : MacT} {o : Int} {i : InsT} (hi : Zc c.1 o = i)
include hi
end
def cA (chip a d e : Int) (v : Nat) (f : FlgT) (pc : Int) (h : Bool) : CpuT := (chip, (a, 0, 0, d, e, ((v / 256 : Nat) : Int), ((v % 256 : Nat) : Int), f, 0, pc), false, false, h, 0, false, false, false, false, false, false, false)
theorem ZgX (chip a d e : Int) (v : Nat) (f : FlgT) (p : Nat) (i : InsT) (n : Nat) (hn : i.2.1 = n) (hp : p + n < 1000) : ZR (cA chip a d e v f p false) false i = ((p + n : Nat) : Int) := by
 show IntKind.wrap .u16 ((p : Int) + IntKind.wrap .u16 i.2.1) = _
 rw [hn, w16 (by omega), show (p : Int) + (n : Int) = ((p + n : Nat) : Int) by omega, w16 (by omega)]
section
variable (chip : Int) (a b : Nat) (ha : a < 256) (hb : b < 256)
end
theorem lval {t : RT (Option Bool)} (h : t.val = some true) : okB t.val = true ∧ getO false t.val = true := by rw [h]; exact ⟨rfl, rfl⟩
theorem ZIQ : kKnC = true ∧ kKn = true := lval (t := kKnT) (by kernel_rfl)
theorem NB.up {s : List Int × Int} {k j : Int} (h : NB s k) (hj : k ≤ j) : NB s j := ⟨h.1, by have := h.2; omega⟩
theorem Zfb {s : List Int × Int} {k : Int} (h : NB s k) (hk : k ≤ 1000000) : Zgz s = true ∧ NB (ZfL s).2 (k + 1) := by
 obtain ⟨c1, b, _⟩ := ZO h hk 2 (by decide) (by decide)
 simp only [Zgz, ZfL, Zxz, RT.val, c1, cond_true, okB, getO]
 exact ⟨trivial, b⟩
theorem Zib {a b : Nat} (h : a ≤ b) : Nat.ble a b = true := by rw [Nat.ble_eq]; exact h
theorem ZD5 {s : List Int × Int} {k : Int} (h : NB s k) (hk : k ≤ 500000) (n : Nat) (hn : n ≤ 100) :
  Zlc s (n : Int) = true ∧ NB (Zfv s (n : Int)).2 (k + 1 + 3 * n) ∧ (Zfv s (n : Int)).1.length ≤ n := by
 have hms := mst
 have w0 : IntKind.wrap .i64 ((n : Int) + 1) = (n : Int) + 1 := wrap_i64 _ (by omega) (by omega)
 obtain ⟨c1, b1, d0, d1⟩ := ZO h (by omega) ((n : Int) + 1) (by omega) (by omega)
 obtain ⟨s1, hs1⟩ : ∃ s1, s1 = (Zd s ((n : Int) + 1)).2 := ⟨_, rfl⟩
 obtain ⟨q, hq⟩ : ∃ q : Nat, (Zd s ((n : Int) + 1)).1 = (q : Int) := ⟨_, (Int.toNat_of_nonneg d0).symm⟩
 rw [← hs1] at b1
 obtain ⟨r, hr, h1, s', o, hs', ho, hR⟩ := ZX (fl := false) (t := ZeK) (fuel := fun a => 400)
  (fun a => ∃ (i : Nat) (s' : List Int × Int) (o : List Cell), i ≤ q ∧ NB s' (k + 1 + 3 * ((q - i : Nat) : Int)) ∧ o.length ≤ q - i ∧ a = ((i : Int), s', o, ()))
  (fun a => Int.toNat a.1) (fun r => r.1 = false ∧ ∃ (s' : List Int × Int) (o : List Cell), NB s' (k + 1 + 3 * (q : Int)) ∧ o.length ≤ q ∧ r.2 = ((0 : Int), s', o, ()))
  (by
   rintro a ⟨i, s', o, hi, hs', ho, rfl⟩
   cases i with
   | zero =>
    right; left
    exact ⟨_, by simp only [ZeK, RT.val]; rfl, rfl, s', o, by simpa using hs', by omega, rfl⟩
   | succ i =>
    left
    have d : decide (((i + 1 : Nat) : Int) > 0) = true := decide_eq_true (by omega)
    obtain ⟨kw, bw, _⟩ := ZiH hs' (by omega)
    obtain ⟨kb, bb, _⟩ := Zck bw (by omega)
    have hb : ∀ x : Cell, Nat.ble (o ++ [x]).length most = true := fun x => Zib (by simp; omega)
    have w : IntKind.wrap .i64 (((i + 1 : Nat) : Int) - 1) = (i : Int) := by rw [wrap_i64 _ (by omega) (by omega)]; omega
    refine ⟨_, ?_, ⟨i, (Zj (Zai s').2).2, o ++ [((Zai s').1, (Zj (Zai s').2).1)], by omega, bb.up (by omega), by simp; omega, rfl⟩, by simp only; omega⟩
    simp only [ZeK, RT.val, d, kw, kb, hb, w, cond_true, Bool.not_true, Bool.false_or, Bool.or_true, Bool.or_false])
  ((q : Int), s1, [], ()) ⟨q, s1, [], Nat.le_refl _, by simpa using b1, by simp, rfl⟩ (by simp only; omega)
 obtain ⟨r1, r2⟩ := r
 simp only at h1 hR
 subst h1 hR
 have hv : (Zlb s (n : Int)).val = some (o, s') := by
  simp only [Zlb, RT.val, w0, c1, hq, ← hs1, hr, okB, getO, cond_true]
 simp only [Zlc, Zfv, hv, okB, getO]
 exact ⟨trivial, hs'.up (by omega), by omega⟩
theorem Zvd {s : List Int × Int} {k : Int} (h : NB s k) (hk : k ≤ 500000) (n : Nat) (hn : n ≤ 100) :
  Zco s (n : Int) = true ∧ NB (ZaP s (n : Int)).2 (k + 1 + 5 * n) ∧ (ZaP s (n : Int)).1.length ≤ n := by
 have hms := mst
 have w0 : IntKind.wrap .i64 ((n : Int) + 1) = (n : Int) + 1 := wrap_i64 _ (by omega) (by omega)
 obtain ⟨c1, b1, d0, d1⟩ := ZO h (by omega) ((n : Int) + 1) (by omega) (by omega)
 obtain ⟨L, N, hs1⟩ : ∃ L N, (L, N) = (Zd s ((n : Int) + 1)).2 := ⟨_, _, rfl⟩
 obtain ⟨q, hq⟩ : ∃ q : Nat, (Zd s ((n : Int) + 1)).1 = (q : Int) := ⟨_, (Int.toNat_of_nonneg d0).symm⟩
 rw [← hs1] at b1
 obtain ⟨r, hr, h1, L', N', o, hs', ho, hR⟩ := ZX (fl := false) (t := Zc7) (fuel := fun a => 400)
  (fun a => ∃ (i : Nat) (L : List Int) (N : Int) (o : List ZK), i ≤ q ∧ NB (L, N) (k + 1 + 5 * ((q - i : Nat) : Int)) ∧ o.length ≤ q - i ∧ a = ((i : Int), (L, N), o, ()))
  (fun a => Int.toNat a.1) (fun r => r.1 = false ∧ ∃ (L : List Int) (N : Int) (o : List ZK), NB (L, N) (k + 1 + 5 * (q : Int)) ∧ o.length ≤ q ∧ r.2 = ((0 : Int), (L, N), o, ()))
  (by
   rintro a ⟨i, L, N, o, hi, hs', ho, rfl⟩
   cases i with
   | zero =>
    right; left
    exact ⟨_, by simp only [Zc7, RT.val]; rfl, rfl, L, N, o, by simpa using hs', by omega, rfl⟩
   | succ i =>
    left
    have d : decide (((i + 1 : Nat) : Int) > 0) = true := decide_eq_true (by omega)
    obtain ⟨kw, bw, _⟩ := ZiH hs' (by omega)
    obtain ⟨k1, b1, e0, e1⟩ := ZO bw (by omega) 6 (by decide) (by decide)
    obtain ⟨k2, b2, _⟩ := ZO b1 (by omega) 3 (by decide) (by decide)
    obtain ⟨k3, b3, f0, f1⟩ := ZO b2 (by omega) 5 (by decide) (by decide)
    have r1 : Zf (Zd (Zai (L, N)).2 6).1 6 = true := Zaz.2 ⟨e0, e1⟩
    have r2 : Zf (Zd (Zd (Zd (Zai (L, N)).2 6).2 3).2 5).1 5 = true := Zaz.2 ⟨f0, f1⟩
    have hb : ∀ x : ZK, Nat.ble (o ++ [x]).length most = true := fun x => Zib (by simp; omega)
    have w : IntKind.wrap .i64 (((i + 1 : Nat) : Int) - 1) = (i : Int) := by rw [wrap_i64 _ (by omega) (by omega)]; omega
    obtain ⟨o', ho'⟩ : ∃ o' : List ZK, o' = o ++ [((Zai (L, N)).1, u16.wrap (if 65535 < i64.wrap (i64.wrap (Zai (L, N)).1 + R.get (R.int i64) [0, 3, 15, 255, 4095, 65535] (Zd (Zai (L, N)).2 6).1) then 65535 else i64.wrap (i64.wrap (Zai (L, N)).1 + R.get (R.int i64) [0, 3, 15, 255, 4095, 65535] (Zd (Zai (L, N)).2 6).1)), decide ((Zd (Zd (Zai (L, N)).2 6).2 3).1 > 0), R.get (R.int i64) [0, 0, 1, 2, 5] (Zd (Zd (Zd (Zai (L, N)).2 6).2 3).2 5).1)] := ⟨_, rfl⟩
    refine ⟨((i : Int), ((Zd (Zd (Zd (Zai (L, N)).2 6).2 3).2 5).2.1, (Zd (Zd (Zd (Zai (L, N)).2 6).2 3).2 5).2.2), o', ()), ?_, ⟨i, _, _, o', by omega, b3.up (by omega), by rw [ho']; simp; omega, rfl⟩, by simp only; omega⟩
    simp only [Zc7, RT.val, List.length_cons, List.length_nil, Nat.reduceAdd, d, kw, k1, k2, k3, r1, r2, hb, w, ho', cond_true, Bool.not_true, Bool.false_or, Bool.or_true, Bool.or_false])
  ((q : Int), (L, N), [], ()) ⟨q, L, N, [], Nat.le_refl _, by simpa using b1, by simp, rfl⟩ (by simp only; omega)
 obtain ⟨r1, r2⟩ := r
 simp only at h1 hR
 subst h1 hR
 have hv : (ZeI s (n : Int)).val = some (o, L', N') := by
  simp only [ZeI, RT.val, w0, c1, hq, ← hs1, hr, okB, getO, cond_true]
 simp only [Zco, ZaP, hv, okB, getO]
 exact ⟨trivial, hs'.up (by omega), by omega⟩
theorem ZHW {l : List Cell} (h : l.length ≤ 1000) : smC l = true := Zib (by have := mst; omega)
theorem ZLs {l : List Int} (h : l.length ≤ 1000) : smB l = true := Zib (by have := mst; omega)
theorem ZLr {l : List ZK} (h : l.length ≤ 1000) : smG l = true := Zib (by have := mst; omega)
theorem ZKx {s : List Int × Int} {k : Int} (h : NB s k) (hk : k ≤ 400000) : Zvk s = true ∧ NB (nMap s).2 (k + 20) ∧ (nMap s).1.length ≤ 3 := by
 obtain ⟨c1, b1, l1⟩ := Zvd h (by omega) 2 (by omega)
 have c1 : Zco s 2 = true := c1
 have b1 : NB (ZaP s 2).2 (k + 1 + 5 * ((2 : Nat) : Int)) := b1
 have l1 : (ZaP s 2).1.length ≤ 2 := l1
 obtain ⟨c2, b2, _⟩ := ZO b1 (by omega) 3 (by decide) (by decide)
 have hs : ∀ x : ZK, Nat.ble ((ZaP s 2).1 ++ [x]).length most = true := fun x => Zib (by have := mst; simp; omega)
 have hg : ∀ l : List ZK, Stg.l (newG ZdH ZdI l) = l := fun _ => rfl
 have hv : (ZDW s).val = some ((ZaP s 2).1 ++ [(0, 65535, true, IntKind.wrap .i64 (Int.tdiv (Zd (ZaP s 2).2 3).1 2))], (Zd (ZaP s 2).2 3).2) := by
  simp only [ZDW, RT.val, hg, c1, c2, hs, Bool.not_true, Bool.false_or, Bool.or_true, cond_true]
 refine ⟨by simp only [Zvk, hv]; rfl, ?_, ?_⟩
 ·simp only [nMap, hv, getO]; exact b2.up (by omega)
 ·simp only [nMap, hv, getO]; simp; omega
theorem Zvg {s : List Int × Int} {k : Int} (h : NB s k) (hk : k ≤ 300000) (n : Nat) (hn : n ≤ 20) :
  Zcp s (n : Int) = true ∧ NB (Zad s (n : Int)).2 (k + 1 + 10 * n) ∧ (Zad s (n : Int)).1.length ≤ 12 * n := by
 have hms := mst
 have w0 : IntKind.wrap .i64 ((n : Int) + 1) = (n : Int) + 1 := wrap_i64 _ (by omega) (by omega)
 obtain ⟨c1, b1, d0, d1⟩ := ZO h (by omega) ((n : Int) + 1) (by omega) (by omega)
 obtain ⟨s1, hs1⟩ : ∃ s1, s1 = (Zd s ((n : Int) + 1)).2 := ⟨_, rfl⟩
 obtain ⟨q, hq⟩ : ∃ q : Nat, (Zd s ((n : Int) + 1)).1 = (q : Int) := ⟨_, (Int.toNat_of_nonneg d0).symm⟩
 rw [← hs1] at b1
 obtain ⟨r, hr, h1, s', o, hs', ho, hR⟩ := ZX (fl := false) (t := Zb9) (fuel := fun a => 400)
  (fun a => ∃ (i : Nat) (s' : List Int × Int) (o : List Int), i ≤ q ∧ NB s' (k + 1 + 10 * ((q - i : Nat) : Int)) ∧ o.length ≤ 12 * (q - i) ∧ a = ((i : Int), s', o, ()))
  (fun a => Int.toNat a.1) (fun r => r.1 = false ∧ ∃ (s' : List Int × Int) (o : List Int), NB s' (k + 1 + 10 * (q : Int)) ∧ o.length ≤ 12 * q ∧ r.2 = ((0 : Int), s', o, ()))
  (by
   rintro a ⟨i, s', o, hi, hs', ho, rfl⟩
   cases i with
   | zero =>
    right; left
    exact ⟨_, by simp only [Zb9, RT.val]; rfl, rfl, s', o, by simpa using hs', by omega, rfl⟩
   | succ i =>
    left
    have d : decide (((i + 1 : Nat) : Int) > 0) = true := decide_eq_true (by omega)
    have w : IntKind.wrap .i64 (((i + 1 : Nat) : Int) - 1) = (i : Int) := by rw [wrap_i64 _ (by omega) (by omega)]; omega
    obtain ⟨k0, b0, _⟩ := ZO hs' (by omega) 8 (by decide) (by decide)
    obtain ⟨k1, b1, e0, e1⟩ := ZO b0 (by omega) 4 (by decide) (by decide)
    obtain ⟨k2, b2, _⟩ := ZO b1 (by omega) 256 (by decide) (by decide)
    obtain ⟨k3, b3, f0, f1⟩ := ZO b2 (by omega) 4 (by decide) (by decide)
    obtain ⟨k4, b4, _⟩ := Zck b0 (by omega)
    obtain ⟨k5, b5, _⟩ := ZO b4 (by omega) 8 (by decide) (by decide)
    obtain ⟨k6, b6, _⟩ := ZO b0 (by omega) 16 (by decide) (by decide)
    obtain ⟨k7, b7, _⟩ := Zck b6 (by omega)
    obtain ⟨k8, b8, _⟩ := ZzU b0 (by omega)
    obtain ⟨k9, b9, _⟩ := ZO b8 (by omega) 64 (by decide) (by decide)
    obtain ⟨ka, ba, g0, g1⟩ := ZO b9 (by omega) 4 (by decide) (by decide)
    have r1 : Zf (Zd (Zd s' 8).2 4).1 4 = true := Zaz.2 ⟨e0, e1⟩
    have r2 : Zf (Zd (Zd (Zd (Zd s' 8).2 4).2 256).2 4).1 4 = true := Zaz.2 ⟨f0, f1⟩
    have r3 : Zf (Zd (Zd (ZaZ (Zd s' 8).2).2 64).2 4).1 4 = true := Zaz.2 ⟨g0, g1⟩
    have hb : ∀ x : List Int, x.length ≤ 12 → Nat.ble (o ++ x).length most = true := fun x hx => Zib (by rw [List.length_append]; omega)
    have q1 : ∀ a b c : Int, Nat.ble (o ++ [a, b, c]).length most = true := fun a b c => hb _ (by simp)
    have q2 : ∀ a b c d : Int, Nat.ble (o ++ [a, b, c, d]).length most = true := fun a b c d => hb _ (by simp)
    have q3 : ∀ a : Int, Nat.ble (o ++ [a]).length most = true := fun a => hb _ (by simp)
    have q4 : ∀ a b c d e f g h i j k l : Int, Nat.ble (o ++ [a, b, c, d, e, f, g, h, i, j, k, l]).length most = true := fun a b c d e f g h i j k l => hb _ (by simp)
    have hv : ∃ s2 x, x.length ≤ 12 ∧ NB s2 (k + 1 + 10 * ((q - i : Nat) : Int)) ∧ (Zb9 (((i + 1 : Nat) : Int), s', o, ())).val = some (Go1.cont ((i : Int), s2, o ++ x, ())) := by
     simp only [Zb9, RT.val, List.length_cons, List.length_nil, Nat.reduceAdd, d, w, k0, k1, k2, k3, k4, k5, k6, k7, k8, k9, ka, r1, r2, r3, q1, q2, q3, q4, cond_true, Bool.not_true, Bool.false_or, Bool.or_true, Bool.or_false]
     cases (Zd s' 8).1 == 0
     ·cases (Zd s' 8).1 == 1
      ·cases (Zd s' 8).1 == 2
       ·cases (Zd s' 8).1 == 3
        ·exact ⟨_, [(ZaZ (Zd s' 8).2).1, IntKind.wrap .u8 (Zd (ZaZ (Zd s' 8).2).2 64).1, R.get (R.int .u8) [0, 0, 1, 255] (Zd (Zd (ZaZ (Zd s' 8).2).2 64).2 4).1], by simp, ba.up (by omega), rfl⟩
        ·exact ⟨_, [62, IntKind.wrap .u8 (IntKind.wrap .i64 (16 + (Zd (Zd s' 8).2 16).1)), 211, 0, 62, (Zj (Zd (Zd s' 8).2 16).2).1, 211, 1, 62, 0, 211, 1], by simp, b7.up (by omega), rfl⟩
       ·exact ⟨_, [251], by simp, b0.up (by omega), rfl⟩
      ·exact ⟨_, [62, (Zj (Zd s' 8).2).1, 211, IntKind.wrap .u8 (Zd (Zj (Zd s' 8).2).2 8).1], by simp, b5.up (by omega), rfl⟩
     ·exact ⟨_, [R.get (R.int .u8) [33, 49, 1, 17] (Zd (Zd s' 8).2 4).1, IntKind.wrap .u8 (Zd (Zd (Zd s' 8).2 4).2 256).1, R.get (R.int .u8) [0, 0, 1, 255] (Zd (Zd (Zd (Zd s' 8).2 4).2 256).2 4).1], by simp, b3.up (by omega), rfl⟩
    obtain ⟨s2, x, hx, hs2, hv⟩ := hv
    exact ⟨_, hv, ⟨i, s2, o ++ x, by omega, hs2, by rw [List.length_append]; omega, rfl⟩, by simp only; omega⟩)
  ((q : Int), s1, [], ()) ⟨q, s1, [], Nat.le_refl _, by simpa using b1, by simp, rfl⟩ (by simp only; omega)
 obtain ⟨r1, r2⟩ := r
 simp only at h1 hR
 subst h1 hR
 have hv : (ZeJ s (n : Int)).val = some (o, s') := by
  simp only [ZeJ, RT.val, w0, c1, hq, ← hs1, hr, okB, getO, cond_true]
 simp only [Zcp, Zad, hv, okB, getO]
 exact ⟨trivial, hs'.up (by omega), by omega⟩
theorem ZKA {s : List Int × Int} {k : Int} (h : NB s k) (hk : k ≤ 300000) : Zpz s = true ∧ NB (nCPU s).2 (k + 40) ∧ (nCPU s).1.2.2.2.2.1 = false := by
 obtain ⟨c0, b0, _⟩ := ZG6 h (by omega)
 obtain ⟨c1, b1, _⟩ := ZG3 b0 (by omega) (Zav s).1
 obtain ⟨c2, b2⟩ := Zfb b1 (by omega)
 obtain ⟨c3, b3, _⟩ := ZO b2 (by omega) 5 (by decide) (by decide)
 obtain ⟨c4, b4, _⟩ := ZO b3 (by omega) 8 (by decide) (by decide)
 obtain ⟨c5, b5, _⟩ := ZO b4 (by omega) 5 (by decide) (by decide)
 obtain ⟨c6, b6⟩ := Zfb b5 (by omega)
 obtain ⟨c7, b7⟩ := Zfb b6 (by omega)
 obtain ⟨c8, b8⟩ := Zfb b7 (by omega)
 obtain ⟨c9, b9, _⟩ := ZO b8 (by omega) 4 (by decide) (by decide)
 obtain ⟨ca, ba⟩ := Zfb b9 (by omega)
 obtain ⟨cb, bb⟩ := Zfb ba (by omega)
 have hv : ∃ c s', (ZD7 s).val = some (c, s') ∧ NB s' (k + 40) ∧ c.2.2.2.2.1 = false := by
  simp only [ZD7, RT.val, c0, c1, c2, c3, c4, c5, c6, c7, c8, c9, ca, cb, cond_true, Bool.not_true, Bool.false_or, Bool.or_true]
  cases (Zav s).1 == 2
  ·exact ⟨_, _, rfl, b3.up (by omega), rfl⟩
  ·exact ⟨_, _, rfl, bb.up (by omega), rfl⟩
 obtain ⟨c, s', hv, h1, h2⟩ := hv
 simp only [Zpz, nCPU, hv, okB, getO]
 exact ⟨trivial, h1, h2⟩
theorem ZFI (l : List Cell) : Stg.l (newG Zf9 Zga l) = l := rfl
theorem ZFN (n : List Int) : Zpz (n, 0) = true ∧ Zr (nCPU (n, 0)).2 8 = true ∧ Zvk (Zd (nCPU (n, 0)).2 8).2 = true ∧
  Zcp (nMap (Zd (nCPU (n, 0)).2 8).2).2 10 = true ∧ Zlc (Zad (nMap (Zd (nCPU (n, 0)).2 8).2).2 10).2 6 = true ∧
  (nMap (Zd (nCPU (n, 0)).2 8).2).1.length ≤ 3 ∧ (Zad (nMap (Zd (nCPU (n, 0)).2 8).2).2 10).1.length ≤ 120 ∧
  (Zfv (Zad (nMap (Zd (nCPU (n, 0)).2 8).2).2 10).2 6).1.length ≤ 6 ∧ (nCPU (n, 0)).1.2.2.2.2.1 = false := by
 obtain ⟨c1, b1, h1⟩ := ZKA (ZK1 n) (by omega)
 obtain ⟨c2, b2, _⟩ := ZO b1 (by omega) 8 (by decide) (by decide)
 obtain ⟨c3, b3, l3⟩ := ZKx b2 (by omega)
 obtain ⟨c4, b4, l4⟩ := Zvg b3 (by omega) 10 (by omega)
 obtain ⟨c5, b5, l5⟩ := ZD5 b4 (by omega) 6 (by omega)
 exact ⟨c1, c2, c3, c4, c5, l3, l4, l5, h1⟩
theorem ZHc (t : Int) (b : List Int) : (ZfN t b).length ≤ b.length := by
 have := Zc6 (ZfO t b b.length)
 rw [ZeM] at this
 exact this
theorem ZA2 (c : CpuT) (rg : List ZK) (m : List Cell) (s : Int) (ins : List Int) (l : LnT) : (ZfC c rg m s ins l).2.1.length ≤ m.length + 6 ∧ (ZfC c rg m s ins l).2.2.1.length ≤ 6 ∧ Vld (ZfC c rg m s ins l).2.1 := by
 have h := ZEQ (Za8 c s) s 6 [] (Zcz rg m ins)
 have h1 := Zc6 m
 refine ⟨Nat.le_trans h.2.2.1 (Nat.add_le_add_right h1 6), ?_, h.2.1 (Zc5 m)⟩
 have h2 := h.2.2.2.2
 have h3 : (Zcz rg m ins).2.2.2.length = 0 := rfl
 exact Nat.le_trans h2 (by omega)
abbrev WrZ := Int × Int × Int × Int × Int × Int × Int × Int × Bool × Bool × Bool × Bool × Bool × Bool × Bool × Int × Int × Bool × Bool × Bool × Int × Bool × Bool × Bool × Bool × Bool × Bool × Bool × List Int × Int × Int × Int × Int × Int × Int × Int × Int × Int × Bool × Bool × Bool × Bool × Bool × Bool × Bool × Int × Int × Bool × Bool × Bool × Int × Bool × Bool × Bool × Bool × Bool × Bool × Bool × (Int × (Int × Int × Int × Int × Int × Int × Int × (Bool × Bool × Bool × Bool × Bool × Bool × Bool) × Int × Int) × Bool × Bool × Bool × Int × Bool × Bool × Bool × Bool × Bool × Bool × Bool) × (Int × (Int × Int × Int × Int × Int × Int × Int × (Bool × Bool × Bool × Bool × Bool × Bool × Bool) × Int × Int) × Bool × Bool × Bool × Int × Bool × Bool × Bool × Bool × Bool × Bool × Bool) × List (Int × Int) × PUnit
def wrC (z : WrZ) : CpuT := z.2.2.2.2.2.2.2.2.2.2.2.2.2.2.2.2.2.2.2.2.2.2.2.2.2.2.2.2.2.2.2.2.2.2.2.2.2.2.2.2.2.2.2.2.2.2.2.2.2.2.2.2.2.2.2.2.2.2.1
theorem ZMH {α : Type} {b : Bool} {x y z : α} (h : b = true) (e : x = z := by rfl) : (bif b then x else y) = z := by rw [h]; exact e
theorem ZA0 (g : List Int) (i : Nat) (h : i ≤ g.length) : subL g 0 (i : Int) = g.take i := by
 simp [subL]
theorem ZJa (t : Int) (rg : List ZK) (p : List Cell) (got : List Int) (z : WrZ) (hl : got.length ≤ 100) :
  runF false ZcU (fun a => 1000) (t, rg, p, got, false, iN got.length, 0, z) = some (false, (t, rg, p, got, (List.range got.length).any (fun i => hits (wrC z) 0 t (got.take i)), iN got.length, iN got.length, z)) := by
 obtain ⟨r, hr, h1⟩ := ZX (fl := false) (t := ZcU) (fuel := fun _ => 1000)
  (fun a => ∃ i : Nat, i ≤ got.length ∧ a = (t, rg, p, got, (List.range i).any (fun i => hits (wrC z) 0 t (got.take i)), (got.length : Int), (i : Int), z))
  (fun a => Int.toNat (a.2.2.2.2.2.1 - a.2.2.2.2.2.2.1)) (fun r => r = (false, (t, rg, p, got, (List.range got.length).any (fun i => hits (wrC z) 0 t (got.take i)), (got.length : Int), (got.length : Int), z)))
  (by
   rintro a ⟨i, hi, rfl⟩
   by_cases hlt : i < got.length
   ·left
    have d : decide ((i : Int) < (got.length : Int)) = true := by simpa using hlt
    have h0 : (decide ((0 : Int) ≤ 0) && decide ((0 : Int) ≤ (i : Int)) && (decide ((i : Int) = 0) || decide ((i : Int) ≤ iN got.length))) = true := by
     have : (i : Int) ≤ iN got.length := by simp [iN]; omega
     simp [this]
    have hs := ZA0 got i hi
    refine ⟨(t, rg, p, got, (List.range (i + 1)).any (fun i => hits (wrC z) 0 t (got.take i)), (got.length : Int), ((i + 1 : Nat) : Int), z), ?_, ⟨i + 1, hlt, rfl⟩, by simp only; omega⟩
    rw [List.range_succ, List.any_append]
    simp only [ZcU, RT.val, d, hs, cond_true, Zfk i (by omega), List.any_cons, List.any_nil, Bool.or_false]
    exact ZMH h0
   ·right; left
    have d : decide ((i : Int) < (got.length : Int)) = false := by simpa using hlt
    have e : i = got.length := by omega
    subst e
    exact ⟨(t, rg, p, got, (List.range got.length).any (fun i => hits (wrC z) 0 t (got.take i)), (got.length : Int), (got.length : Int), z), by simp only [ZcU, RT.val, d, cond_false], rfl⟩)
  (t, rg, p, got, false, iN got.length, 0, z) ⟨0, Nat.zero_le _, rfl⟩ (by simp only [iN]; omega)
 subst h1
 exact hr
theorem ZA3 (c : CpuT) (rg : List ZK) (m : List Cell) (s : Int) (ins : List Int) (l : LnT) : (ZfC c rg m s ins l).2.2.2.length ≤ 6 := by
 have key : ∀ (n : Nat) (g : List Int) (M : MacT), (goX (Za8 c s) s n g M).1.length ≤ g.length + n := by
  intro n
  induction n with
  | zero => exact fun g M => Nat.le_refl _
  | succ n ih =>
   intro g M
   rw [ZgI]
   cases (Zi (Za8 c s) s g).2
   ·exact Nat.le_add_right _ _
   ·have := ih (g ++ [(doX (Zi (Za8 c s) s g).1 M).1]) (doX (Zi (Za8 c s) s g).1 M).2
    simp only [List.length_append, List.length_singleton] at this
    simp only [cond_true]; omega
 have := key 6 [] (Zcz rg m ins)
 rw [List.length_nil, Nat.zero_add] at this
 exact this
theorem ZA4 (c : CpuT) (rg : List ZK) (m : List Cell) (t : Int) (l : LnT)
  (h : (List.range (ZfC c rg m 0 [] l).2.2.2.length).any (fun i => hits c 0 t ((ZfC c rg m 0 [] l).2.2.2.take i)) = false ∨ (decide (Zaq rg t ≥ 0) && (R.get GR rg (Zaq rg t)).2.2.1) = false) :
  getX (ZfC c rg m 0 [] l).2.1 t = getX m t := by
 have := ZI0 c 0 t 6 [] (Zcz rg m []) (by
  rcases h with h | h
  ·left
   intro i _ hi
   have := List.any_eq_false.1 h i (List.mem_range.2 hi)
   exact Bool.eq_false_iff.2 this
  ·exact .inr h)
 rw [show getX (Zcz rg m []).2.1 t = getX m t from Zgu m t] at this
 exact this
theorem writes_law (n : List Int) (t : Int) : ZpM n t = true ∧ Zvz n t = true := by
 have hms := mst
 obtain ⟨c1, c2, c3, c4, c5, l3, l4, l5, _⟩ := ZFN n
 have hb1 : smB (Zad (nMap (Zd (nCPU (n, 0)).2 8).2).2 10).1 = true := ZLs (by omega)
 have hl := ZHc 0 (Zad (nMap (Zd (nCPU (n, 0)).2 8).2).2 10).1
 have hx : Nat.ble (ZfN 0 (Zad (nMap (Zd (nCPU (n, 0)).2 8).2).2 10).1 ++ (Zfv (Zad (nMap (Zd (nCPU (n, 0)).2 8).2).2 10).2 6).1).length most = true := Zib (by rw [List.length_append]; omega)
 have hr : ZsE (ZfN 0 (Zad (nMap (Zd (nCPU (n, 0)).2 8).2).2 10).1 ++ (Zfv (Zad (nMap (Zd (nCPU (n, 0)).2 8).2).2 10).2 6).1) = true := Zi8.2 (by rw [List.length_append]; omega)
 have hg : smG (nMap (Zd (nCPU (n, 0)).2 8).2).1 = true := ZLr (by omega)
 have hm : (ZfN 0 (Zad (nMap (Zd (nCPU (n, 0)).2 8).2).2 10).1 ++ (Zfv (Zad (nMap (Zd (nCPU (n, 0)).2 8).2).2 10).2 6).1).length ≤ 200 := by rw [List.length_append]; omega
 have hv : (ZgE n t).val = some true := by
  unfold ZgE
  simp only [RT.val, ZKs, ZGZ, ZFI, c1, c2, c3, c4, c5, hb1, hx, hr, hg, ZIQ.1, Bool.not_true, Bool.not_false, Bool.and_self, Bool.or_true, Bool.true_or, Bool.false_or, cond_true]
  generalize ZfN 0 (Zad (nMap (Zd (nCPU (n, 0)).2 8).2).2 10).1 ++ (Zfv (Zad (nMap (Zd (nCPU (n, 0)).2 8).2).2 10).2 6).1 = m at hr hm ⊢
  have hzero : (false, false, false, false, false, false, false, false, false) = noL := rfl
  rw [ZJa _ _ _ _ _ (Nat.le_trans (ZA3 _ _ _ _ _ _) (by omega))]
  simp only [okB, getO, cond_true, wrC, hzero]
  generalize (((nCPU (n, 0)).1.1, ((nCPU (n, 0)).1.2.1.1, (nCPU (n, 0)).1.2.1.2.1, (nCPU (n, 0)).1.2.1.2.2.1, (nCPU (n, 0)).1.2.1.2.2.2.1, (nCPU (n, 0)).1.2.1.2.2.2.2.1, (nCPU (n, 0)).1.2.1.2.2.2.2.2.1, (nCPU (n, 0)).1.2.1.2.2.2.2.2.2.1, (nCPU (n, 0)).1.2.1.2.2.2.2.2.2.2.1, (nCPU (n, 0)).1.2.1.2.2.2.2.2.2.2.2.1, IntKind.wrap .u16 (Zd (nCPU (n, 0)).2 8).1), (nCPU (n, 0)).1.2.2) : CpuT) = c
  generalize (nMap (Zd (nCPU (n, 0)).2 8).2).1 = rg at hg ⊢
  have hs := ZA2 c rg m 0 [] noL
  have hs1 : smC (ZfC c rg m 0 [] noL).2.1 = true := ZHW (by omega)
  have hm1 : smC m = true := ZHW (by omega)
  have hvl : vldB (ZfC c rg m 0 [] noL).2.1 = true := Zil.2 hs.2.2
  have hin : (decide (Zaq rg t < 0) || Zf (Zaq rg t) rg.length) = true := by
   by_cases h : Zaq rg t < 0
   ·rw [decide_eq_true h, Bool.true_or]
   ·rw [Zr5 rg t (by omega), Bool.or_true]
  have hget := ZA4 c rg m t noL
  simp only [hs1, hm1, hvl, hin, hg, ZIQ.2, Bool.or_true, Bool.and_self, Bool.and_true, cond_true]
  cases hW : (List.range (ZfC c rg m 0 [] noL).2.2.2.length).any (fun i => hits c 0 t ((ZfC c rg m 0 [] noL).2.2.2.take i)) with
  | false =>
   rw [hget (.inl hW), Bool.not_false, Bool.true_or, cond_true, beq_self_eq_true, Bool.cond_self]
  | true =>
   cases hB : (decide (Zaq rg t < 0) || !(R.get GR rg (Zaq rg t)).2.2.1) with
   | false => rw [Bool.not_true, Bool.or_self, cond_false, Bool.cond_self]
   | true =>
    have hn : (decide (Zaq rg t ≥ 0) && (R.get GR rg (Zaq rg t)).2.2.1) = false := by
     rw [ge_lt]
     cases h1 : decide (Zaq rg t < 0) <;> cases h2 : (R.get GR rg (Zaq rg t)).2.2.1 <;> rw [h1, h2] at hB <;> first | rfl | simp at hB
    rw [hget (.inr hn), Bool.or_true, cond_true, beq_self_eq_true, Bool.cond_self]
 exact ⟨by simp only [ZpM, hv]; rfl, by simp only [Zvz, hv, getO]⟩
end
end Go.Proofs.YtghoimllhpjkjaaGreat
