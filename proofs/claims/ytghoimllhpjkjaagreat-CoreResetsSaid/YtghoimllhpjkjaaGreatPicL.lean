/-
  Contracts of functions; each found by the symbolic executor and checked by the kernel. Conditions: none.
-/
import Derived.Test.YtghoimllhpjkjaaGreatS3D
import Derived.Test.YtghoimllhpjkjaaGreatProg
import Derived.Test.YtghoimllhpjkjaaGreatS3Box1
open Go.IntKind (u8 u16 i64)
set_option linter.unusedSimpArgs false
open Go Go.S3 Go.Proofs
set_option linter.unusedVariables false
set_option maxRecDepth 100000
namespace Go.Proofs.YtghoimllhpjkjaaGreat
noncomputable section
abbrev ZUR : List Sh := [Sh.one (R.int u8), Sh.one (R.int i64)]
abbrev ZSz : Rs := Rs.one (Sh.one R.bool)
def vOnT (s : Int) (l : Int) : RT (Option (Bool)) :=
 .br (decide (0 ≤ l)) (.leaf (some (andI u8 (shrI u8 s l) 1 == 1))) (.leaf none)
def vOn (s : Int) (l : Int) : Bool := getO ZSz.dflt (vOnT s l).val
def vOnC (s : Int) (l : Int) : Bool := okB (vOnT s l).val
def vOnE : Entry := Zf ZUR ZSz (fun a => some (vOnC a.1 a.2)) (fun a => vOn a.1 a.2)
theorem ZQX : Zc Tryz.prog 339 vOnE :=
 pureP 31 [] [] ZUR ZSz trivial Tryz.func339 Tryz.call339 trivial (t := fun a => vOnT a.1 a.2) (fun a => by kernel_rfl)
abbrev ZIx : List Sh := [Sh.one (R.int i64), Sh.one (R.int i64)]
abbrev ZIy : Rs := Rs.one (Sh.one (R.int i64))
def ZQT (l : Int) (k : Int) : RT (Int) :=
 .leaf (andI i64 (i64.wrap (i64.wrap (andI i64 l 7 - andI i64 k 7) + 15)) 7)
def Zis (l : Int) (k : Int) : Int := (ZQT l k).val
def Zur : Entry := Zf ZIx ZIy (fun _ => none) (fun a => Zis a.1 a.2)
theorem Zp8 : Zc Tryz.prog 338 Zur :=
 pureQ 31 [] [] ZIx ZIy trivial Tryz.func338 Tryz.call338 trivial (t := fun a => ZQT a.1 a.2) (fun a => by kernel_rfl)
abbrev ZIJ : List Sh := [Sh.one (R.int u8), Sh.one (R.int i64)]
abbrev Zxp : Rs := Rs.one (Sh.one (R.int i64))
def ZOB : LS := { n := 29, slots := [(0, .code (Sh.one (R.int u8))), (1, .code (Sh.one (R.int i64))), (5, .code (Sh.one (R.int i64))), (6, .code (Sh.one (R.int i64)))], boxes := [], stgs := [] }
def Zho (a : Int × Int × Int × Int × PUnit) : RT (Option (Go1 (Int × Int × Int × Int × PUnit))) :=
 .br (decide (a.2.2.2.1 < 8)) (.br (vOnC a.1 a.2.2.2.1) (.leaf (some (Go1.cont (a.1, a.2.1, bif vOn a.1 a.2.2.2.1 && (decide (a.2.2.1 < 0) || decide (Zis a.2.2.2.1 a.2.1 < Zis a.2.2.1 a.2.1)) then a.2.2.2.1 else a.2.2.1, i64.wrap (a.2.2.2.1 + 1), PUnit.unit)))) (.leaf none)) (.leaf (some (Go1.brk (a.1, a.2.1, a.2.2.1, a.2.2.2.1, PUnit.unit))))
def ZB2 : Ora := ZdV false ZOB Zho (fun a => 9)
theorem ZEN : ZcS (envX Tryz.prog [(338, Zur), (339, vOnE)] [] 127 8) (.block 0 (.loop (Zbc Tryz.f329.body 0))) ZB2 :=
 Zaa (Zag (l := [(338, Zur), (339, vOnE)]) ⟨Zp8, ZQX, trivial⟩ [] 127 8) (ZO (by kernel_rfl)) (fun a => by kernel_rfl)
def Zut (s : Int) (k : Int) : RT (Option (Int)) :=
 let x1 := runF false Zho (fun a => 9) (s, k, -1, 0, ())
 .br (okB x1) (.leaf (some (getO (false, s, k, -1, 0, ()) x1).2.2.2.1)) (.leaf none)
def ZgS (s : Int) (k : Int) : Int := getO Zxp.dflt (Zut s k).val
def Zou (s : Int) (k : Int) : Bool := okB (Zut s k).val
def ZIK : Entry := Zf ZIJ Zxp (fun a => some (Zou a.1 a.2)) (fun a => ZgS a.1 a.2)
theorem ZB1 : Zc Tryz.prog 329 ZIK :=
 pureP 127 [(338, Zur), (339, vOnE)] [(0, ZB2)] ZIJ Zxp ⟨Zp8, ZQX, trivial⟩ Tryz.func329 Tryz.call329 ⟨ZEN, trivial⟩ (t := fun a => Zut a.1 a.2) (fun a => by kernel_rfl)
abbrev ZB9 : List Sh := [Sh.one (R.int u8), Sh.one (R.int u8), Sh.one R.bool]
abbrev ZCa : Rs := Rs.one (Sh.one (R.int u8))
def ZIQ (m : Int) (s : Int) (p : Bool) : RT (Int) :=
 .br (p) (.leaf (Zb2 u8 s m)) (.leaf (s))
def Zjm (m : Int) (s : Int) (p : Bool) : Int := (ZIQ m s p).val
def Zxs : Entry := Zf ZB9 ZCa (fun _ => none) (fun a => Zjm a.1 a.2.1 a.2.2)
theorem Zuw : Zc Tryz.prog 330 Zxs :=
 pureQ 127 [] [] ZB9 ZCa trivial Tryz.func330 Tryz.call330 trivial (t := fun a => ZIQ a.1 a.2.1 a.2.2) (fun a => by kernel_rfl)
abbrev ZIC : List Sh := [Sh.one (R.int u8), Sh.one (R.int u8), Sh.one (R.int u8), Sh.one (R.int i64), Sh.one R.bool]
abbrev Zxl : Rs := Rs.one (Sh.one (R.int i64))
def Zus (r : Int) (m : Int) (s : Int) (k : Int) (p : Bool) : RT (Option (Int)) :=
 .br (Zou (Zb2 u8 r m) k) (.br (Zou (Zjm m s p) k) (.br (decide (ZgS (Zb2 u8 r m) k ≥ 0) && (decide (ZgS (Zjm m s p) k < 0) || decide (Zis (ZgS (Zb2 u8 r m) k) k < Zis (ZgS (Zjm m s p) k) k))) (.leaf (some (ZgS (Zb2 u8 r m) k))) (.leaf (some (-1)))) (.leaf none)) (.leaf none)
def ZSy (r : Int) (m : Int) (s : Int) (k : Int) (p : Bool) : Int := getO Zxl.dflt (Zus r m s k p).val
def ZID (r : Int) (m : Int) (s : Int) (k : Int) (p : Bool) : Bool := okB (Zus r m s k p).val
def ZQU : Entry := Zf ZIC Zxl (fun a => some (ZID a.1 a.2.1 a.2.2.1 a.2.2.2.1 a.2.2.2.2)) (fun a => ZSy a.1 a.2.1 a.2.2.1 a.2.2.2.1 a.2.2.2.2)
theorem ZOv : Zc Tryz.prog 328 ZQU :=
 pureP 8191 [(329, ZIK), (330, Zxs), (338, Zur)] [] ZIC Zxl ⟨ZB1, Zuw, Zp8, trivial⟩ Tryz.func328 Tryz.call328 trivial (t := fun a => Zus a.1 a.2.1 a.2.2.1 a.2.2.2.1 a.2.2.2.2) (fun a => by kernel_rfl)
abbrev ZQY : List Sh := []
abbrev ZQZ : Rs := Rs.one (Sh.agg Za5)
def ZUS : RT PICT :=
 .leaf ((0, false, false, false, false, 0, 0, false, false, false, false, false, 0, 0, 0, 0, 7, 0, 0, false))
def vNew : PICT := (ZUS ).val
def ZSB : Entry := Zf ZQY ZQZ (fun _ => none) (fun a => vNew )
theorem ZIH : Zc Tryz.prog 189 ZSB :=
 pureQ 1 [] [] ZQY ZQZ trivial Tryz.func189 Tryz.call189 trivial (t := fun a => ZUS ) (fun a => by kernel_rfl)
abbrev ZBW : List Sh := [Sh.agg Za5, Sh.one (R.int u8)]
abbrev ZBX : Rs := Rs.one (Sh.agg Za5)
def ZIA (p : PICT) (l : Int) : RT PICT :=
 let x1 := p.2.2.2.2.2.2.2.2.2.2.2.2.2
 .leaf ((p.1, p.2.1, p.2.2.1, p.2.2.2.1, p.2.2.2.2.1, p.2.2.2.2.2.1, p.2.2.2.2.2.2.1, p.2.2.2.2.2.2.2.1, p.2.2.2.2.2.2.2.2.1, p.2.2.2.2.2.2.2.2.2.1, p.2.2.2.2.2.2.2.2.2.2.1, p.2.2.2.2.2.2.2.2.2.2.2.1, l, andI u8 (orI u8 x1.1 (Zb2 u8 l p.2.2.2.2.2.2.2.2.2.2.2.2.1)) l, x1.2))
def ZBY (p : PICT) (l : Int) : PICT := (ZIA p l).val
def ZIB : Entry := Zf ZBW ZBX (fun _ => none) (fun a => ZBY a.1 a.2)
theorem ZIz : Zc Tryz.prog 191 ZIB :=
 pureQ 31 [] [] ZBW ZBX trivial Tryz.func191 Tryz.call191 trivial (t := fun a => ZIA a.1 a.2) (fun a => by kernel_rfl)
abbrev ZQQ : List Sh := [Sh.agg Za5]
abbrev ZQR : Rs := Rs.one (Sh.one (R.int u8))
def ZUP (p : PICT) : RT (Int) :=
 .br p.2.1 (.leaf p.2.2.2.2.2.2.2.2.2.2.2.2.1) (.leaf p.2.2.2.2.2.2.2.2.2.2.2.2.2.1)
def vReq (p : PICT) : Int := (ZUP p).val
def ZSx : Entry := Zf ZQQ ZQR (fun _ => none) (fun a => vReq a)
theorem ZIr : Zc Tryz.prog 304 ZSx :=
 pureQ 7 [] [] ZQQ ZQR trivial Tryz.func304 Tryz.call304 trivial (t := fun a => ZUP a) (fun a => by kernel_rfl)
abbrev ZQV : List Sh := [Sh.agg Za5]
abbrev ZIF : Rs := Rs.one (Sh.one (R.int i64))
def ZIE (p : PICT) : RT (Option (Int)) :=
 let x1 := p.2.2.2.2.2.2.2.2.2.2.2.2.2.2
 let x2 := x1.2
 let x3 := x2.1
 let x4 := x1.1
 let x5 := x2.2.1
 .br (ZID (vReq p) x3 x4 x5 p.2.2.2.2.2.2.2.2.2.1) (.leaf (some (ZSy (vReq p) x3 x4 x5 p.2.2.2.2.2.2.2.2.2.1))) (.leaf none)
def vPck (p : PICT) : Int := getO ZIF.dflt (ZIE p).val
def ZEM (p : PICT) : Bool := okB (ZIE p).val
def ZOw : Entry := Zf ZQV ZIF (fun a => some (ZEM a)) (fun a => vPck a)
theorem Zxm : Zc Tryz.prog 299 ZOw :=
 pureP 7 [(304, ZSx), (328, ZQU)] [] ZQV ZIF ⟨ZIr, ZOv, trivial⟩ Tryz.func299 Tryz.call299 trivial (t := fun a => ZIE a) (fun a => by kernel_rfl)
abbrev ZQ0 : List Sh := [Sh.agg Za5]
abbrev ZII : Rs := Rs.one (Sh.one R.bool)
def ZOz (p : PICT) : RT (Option (Bool)) :=
 .br (ZEM p) (.leaf (some (decide (vPck p ≥ 0)))) (.leaf none)
def vInt (p : PICT) : Bool := getO ZII.dflt (ZOz p).val
def ZOA (p : PICT) : Bool := okB (ZOz p).val
def ZUT : Entry := Zf ZQ0 ZII (fun a => some (ZOA a)) (fun a => vInt a)
theorem ZSC : Zc Tryz.prog 248 ZUT :=
 pureP 7 [(299, ZOw)] [] ZQ0 ZII ⟨Zxm, trivial⟩ Tryz.func248 Tryz.call248 trivial (t := fun a => ZOz a) (fun a => by kernel_rfl)
abbrev ZB4 : List Sh := [Sh.agg Za5, Sh.one (R.int u8)]
abbrev ZB5 : Rs := Rs.one (Sh.agg Za5)
def ZIM (p : PICT) (v : Int) : RT PICT :=
 .leaf ((2, andI u8 v 8 != 0, andI u8 v 4 != 0, andI u8 v 2 != 0, andI u8 v 1 != 0, andI u8 v 224, 0, false, false, false, false, false, p.2.2.2.2.2.2.2.2.2.2.2.2.1, 0, 0, 0, 7, 0, 0, false))
def ZkD (p : PICT) (v : Int) : PICT := (ZIM p v).val
def ZIN : Entry := Zf ZB4 ZB5 (fun _ => none) (fun a => ZkD a.1 a.2)
theorem ZIL : Zc Tryz.prog 306 ZIN :=
 pureQ 63 [(189, ZSB)] [] ZB4 ZB5 ⟨ZIH, trivial⟩ Tryz.func306 Tryz.call306 trivial (t := fun a => ZIM a.1 a.2) (fun a => by kernel_rfl)
abbrev Zov : List Sh := [Sh.agg Za5, Sh.one (R.int u8)]
abbrev Zow : Rs := Rs.one (Sh.agg Za5)
def Zuu (p : PICT) (v : Int) : RT PICT :=
 let x1 := p.2.2.2.2.2.2.2.2.2.2.2.2.2
 let x2 := x1.2
 let x3 := x2.2
 let x4 := x3.1
 .leaf ((bif p.1 == 2 then bif !p.2.2.2.1 then 3 else bif p.2.2.2.2.1 then 4 else 0 else bif p.1 == 3 then bif p.2.2.2.2.1 then 4 else 0 else bif p.1 == 4 then 0 else p.1, p.2.1, p.2.2.1, p.2.2.2.1, p.2.2.2.2.1, p.2.2.2.2.2.1, bif p.1 == 2 then v else p.2.2.2.2.2.2.1, bif p.1 == 2 then p.2.2.2.2.2.2.2.1 else bif p.1 == 3 then p.2.2.2.2.2.2.2.1 else bif p.1 == 4 then andI u8 v 2 != 0 else p.2.2.2.2.2.2.2.1, p.2.2.2.2.2.2.2.2.1, p.2.2.2.2.2.2.2.2.2.1, p.2.2.2.2.2.2.2.2.2.2.1, p.2.2.2.2.2.2.2.2.2.2.2.1, p.2.2.2.2.2.2.2.2.2.2.2.2.1, x1.1, x2.1, bif p.1 == 2 then x4 else bif p.1 == 3 then x4 else bif p.1 == 4 then x4 else v, x3.2))
def ZB3 (p : PICT) (v : Int) : PICT := (Zuu p v).val
def Zuv : Entry := Zf Zov Zow (fun _ => none) (fun a => ZB3 a.1 a.2)
theorem Zxq : Zc Tryz.prog 305 Zuv :=
 pureQ 71307327 [] [] Zov Zow trivial Tryz.func305 Tryz.call305 trivial (t := fun a => Zuu a.1 a.2) (fun a => by kernel_rfl)
abbrev ZIG : List Sh := [Sh.agg Za5, Sh.one (R.int u8)]
abbrev Zxo : Rs := Rs.one (Sh.agg Za5)
def ZBZ (p : PICT) (v : Int) : RT (Option PICT) :=
 let x1 := p.2.2.2.2.2.2.2.2.2.2.2.2.2
 let x2 := x1.2
 let x3 := x2.2
 let x4 := x3.1
 let x5 := x2.1
 let x6 := Zjm x4 x5 p.2.2.2.2.2.2.2.2.2.1
 let x7 := x3.2
 let x8 := x7.1
 let x9 := ZgS x6 x8
 let x10 := decide (x9 ≥ 0)
 let x11 := !x10 || decide (0 ≤ x9)
 let x12 := shrI u8 v 5 == 0 || (!shrI u8 v 5 == 1 || x11)
 let x13 := !x12
 let x14 := shrI u8 v 5 == 0 || (shrI u8 v 5 == 1 || (!shrI u8 v 5 == 3 || decide (0 ≤ i64.wrap (andI u8 v 7))))
 let x15 := !x14
 let x16 := shrI u8 v 5 == 0 || (shrI u8 v 5 == 1 || (shrI u8 v 5 == 3 || (shrI u8 v 5 == 4 || (!shrI u8 v 5 == 5 || x11))))
 let x17 : Int := bif x10 then Zb2 u8 x5 (shlI u8 1 x9) else x5
 let x18 := Zb2 u8 x5 (shlI u8 1 (i64.wrap (andI u8 v 7)))
 .br (Zou x6 x8) (.br (x13 || (x15 || (!x16 || (shrI u8 v 5 == 0 || (shrI u8 v 5 == 1 || (shrI u8 v 5 == 3 || (shrI u8 v 5 == 4 || (shrI u8 v 5 == 5 || (shrI u8 v 5 == 6 || (!shrI u8 v 5 == 7 || decide (0 ≤ i64.wrap (andI u8 v 7)))))))))))) (.br (x13 || (x15 || x16)) (.br (x13 || x14) (.br (x12) (.leaf (some ((p.1, p.2.1, p.2.2.1, p.2.2.2.1, p.2.2.2.2.1, p.2.2.2.2.2.1, p.2.2.2.2.2.2.1, p.2.2.2.2.2.2.2.1, !shrI u8 v 5 == 0 && bif shrI u8 v 5 == 1 then p.2.2.2.2.2.2.2.2.1 else bif shrI u8 v 5 == 3 then p.2.2.2.2.2.2.2.2.1 else shrI u8 v 5 == 4 || p.2.2.2.2.2.2.2.2.1, p.2.2.2.2.2.2.2.2.2.1, p.2.2.2.2.2.2.2.2.2.2.1, p.2.2.2.2.2.2.2.2.2.2.2.1, p.2.2.2.2.2.2.2.2.2.2.2.2.1, x1.1, bif shrI u8 v 5 == 0 then x5 else bif shrI u8 v 5 == 1 then x17 else bif shrI u8 v 5 == 3 then x18 else bif shrI u8 v 5 == 4 then x5 else bif shrI u8 v 5 == 5 then x17 else bif shrI u8 v 5 == 6 then x5 else bif shrI u8 v 5 == 7 then x18 else x5, x4, bif shrI u8 v 5 == 0 then x8 else bif shrI u8 v 5 == 1 then x8 else bif shrI u8 v 5 == 3 then x8 else bif shrI u8 v 5 == 4 then x8 else bif shrI u8 v 5 == 5 then bif x10 then x9 else x8 else bif shrI u8 v 5 == 6 then i64.wrap (andI u8 v 7) else bif shrI u8 v 5 == 7 then i64.wrap (andI u8 v 7) else x8, x7.2)))) (.leaf none)) (.leaf none)) (.leaf none)) (.leaf none)) (.leaf none)
def ZUQ (p : PICT) (v : Int) : PICT := getO Zxo.dflt (ZBZ p v).val
def ZB0 (p : PICT) (v : Int) : Bool := okB (ZBZ p v).val
def ZQW : Entry := Zf ZIG Zxo (fun a => some (ZB0 a.1 a.2)) (fun a => ZUQ a.1 a.2)
theorem ZOx : Zc Tryz.prog 307 ZQW :=
 pureP 4899995593813786751 [(329, ZIK), (330, Zxs)] [] ZIG Zxo ⟨ZB1, Zuw, trivial⟩ Tryz.func307 Tryz.call307 trivial (t := fun a => ZBZ a.1 a.2) (fun a => by kernel_rfl)
abbrev ZBN : List Sh := [Sh.agg Za5, Sh.one R.bool, Sh.one (R.int u8)]
abbrev Zp3 : Rs := Rs.one (Sh.agg Za5)
def Zp2 (p : PICT) (h : Bool) (v : Int) : RT (Option PICT) :=
 .br (h || (andI u8 v 16 != 0 || (!andI u8 v 8 == 0 || ZB0 p v))) (.br (h) (.leaf (some (ZB3 p v))) (.br (andI u8 v 16 != 0) (.leaf (some ((2, (ZkD p v).2.1, (ZkD p v).2.2.1, (ZkD p v).2.2.2.1, (ZkD p v).2.2.2.2.1, (ZkD p v).2.2.2.2.2.1, 0, false, false, false, false, false, (ZkD p v).2.2.2.2.2.2.2.2.2.2.2.2.1, 0, 0, 0, 7, 0, 0, false)))) (.br (andI u8 v 8 == 0) (.leaf (some (ZUQ p v))) (.leaf (some ((p.1, p.2.1, p.2.2.1, p.2.2.2.1, p.2.2.2.2.1, p.2.2.2.2.2.1, p.2.2.2.2.2.2.1, p.2.2.2.2.2.2.2.1, p.2.2.2.2.2.2.2.2.1, bif andI u8 v 64 != 0 then andI u8 v 32 != 0 else p.2.2.2.2.2.2.2.2.2.1, bif andI u8 v 2 != 0 then andI u8 v 1 != 0 else p.2.2.2.2.2.2.2.2.2.2.1, p.2.2.2.2.2.2.2.2.2.2.2.1 || andI u8 v 4 != 0, p.2.2.2.2.2.2.2.2.2.2.2.2))))))) (.leaf none)
def ZIo (p : PICT) (h : Bool) (v : Int) : PICT := getO Zp3.dflt (Zp2 p h v).val
def Zp4 (p : PICT) (h : Bool) (v : Int) : Bool := okB (Zp2 p h v).val
def ZIn : Entry := Zf ZBN Zp3 (fun a => some (Zp4 a.1 a.2.1 a.2.2)) (fun a => ZIo a.1 a.2.1 a.2.2)
theorem ZIl : Zc Tryz.prog 256 ZIn :=
 pureP 528639 [(305, Zuv), (306, ZIN), (307, ZQW)] [] ZBN Zp3 ⟨Zxq, ZIL, ZOx, trivial⟩ Tryz.func256 Tryz.call256 trivial (t := fun a => Zp2 a.1 a.2.1 a.2.2) (fun a => by kernel_rfl)
abbrev ZIp : List Sh := [Sh.agg Za5, Sh.one (R.int i64)]
abbrev Zxj : Rs := Rs.one (Sh.agg Za5)
def ZBS (p : PICT) (x : Int) : RT (Option PICT) :=
 let x1 := p.2.2.2.2.2.2.2.2.2.2.2.2.2
 let x2 := x1.2
 .br (decide (0 ≤ x)) (.br (decide (0 ≤ x)) (.leaf (some ((p.1, p.2.1, p.2.2.1, p.2.2.2.1, p.2.2.2.2.1, p.2.2.2.2.2.1, p.2.2.2.2.2.2.1, p.2.2.2.2.2.2.2.1, p.2.2.2.2.2.2.2.2.1, p.2.2.2.2.2.2.2.2.2.1, p.2.2.2.2.2.2.2.2.2.2.1, p.2.2.2.2.2.2.2.2.2.2.2.1, p.2.2.2.2.2.2.2.2.2.2.2.2.1, Zb2 u8 x1.1 (shlI u8 1 x), orI u8 x2.1 (shlI u8 1 x), x2.2)))) (.leaf none)) (.leaf none)
def ZSw (p : PICT) (x : Int) : PICT := getO Zxj.dflt (ZBS p x).val
def ZkA (p : PICT) (x : Int) : Bool := okB (ZBS p x).val
def ZIq : Entry := Zf ZIp Zxj (fun a => some (ZkA a.1 a.2)) (fun a => ZSw a.1 a.2)
theorem ZBQ : Zc Tryz.prog 302 ZIq :=
 pureP 31 [] [] ZIp Zxj trivial Tryz.func302 Tryz.call302 trivial (t := fun a => ZBS a.1 a.2) (fun a => by kernel_rfl)
abbrev ZIO : List Sh := [Sh.agg Za5, Sh.one (R.int i64)]
abbrev Zxr : Rs := Rs.one (Sh.agg Za5)
def ZB8 (p : PICT) (x : Int) : RT (Option PICT) :=
 let x1 := p.2.2.2.2.2.2.2.2.2.2.2.2.2
 let x2 := x1.2
 let x3 := x2.2
 let x4 := x3.2
 .br (decide (0 ≤ x)) (.leaf (some ((p.1, p.2.1, p.2.2.1, p.2.2.2.1, p.2.2.2.2.1, p.2.2.2.2.2.1, p.2.2.2.2.2.2.1, p.2.2.2.2.2.2.2.1, p.2.2.2.2.2.2.2.2.1, p.2.2.2.2.2.2.2.2.2.1, p.2.2.2.2.2.2.2.2.2.2.1, p.2.2.2.2.2.2.2.2.2.2.2.1, p.2.2.2.2.2.2.2.2.2.2.2.2.1, x1.1, Zb2 u8 x2.1 (shlI u8 1 x), x3.1, bif p.2.2.2.2.2.2.2.2.1 then x else x4.1, x4.2)))) (.leaf none)
def ZSE (p : PICT) (x : Int) : PICT := getO Zxr.dflt (ZB8 p x).val
def ZkE (p : PICT) (x : Int) : Bool := okB (ZB8 p x).val
def ZIP : Entry := Zf ZIO Zxr (fun a => some (ZkE a.1 a.2)) (fun a => ZSE a.1 a.2)
theorem ZB6 : Zc Tryz.prog 303 ZIP :=
 pureP 31 [] [] ZIO Zxr trivial Tryz.func303 Tryz.call303 trivial (t := fun a => ZB8 a.1 a.2) (fun a => by kernel_rfl)
abbrev ZIs : List Sh := [Sh.agg Za5, Sh.one R.bool]
abbrev Zxk : Rs := Rs.tup [Sh.agg Za5, Sh.one (R.int u8)]
def ZBT (p : PICT) (h : Bool) : RT (Option (PICT × Int)) :=
 let x1 := !p.2.2.2.2.2.2.2.2.2.2.2.1
 let x2 := h || (x1 || ZEM p)
 let x3 := !x2
 let x4 : PICT := (p.1, p.2.1, p.2.2.1, p.2.2.2.1, p.2.2.2.2.1, p.2.2.2.2.2.1, p.2.2.2.2.2.2.1, p.2.2.2.2.2.2.2.1, p.2.2.2.2.2.2.2.2.1, p.2.2.2.2.2.2.2.2.2.1, p.2.2.2.2.2.2.2.2.2.2.1, false, p.2.2.2.2.2.2.2.2.2.2.2.2)
 let x5 := ZkA x4 (vPck p)
 let x6 := ZSw x4 (vPck p)
 let x7 := x6.2
 let x8 := x7.2
 let x9 := x8.2
 let x10 := x9.2
 let x11 := x10.2
 let x12 := x11.2
 let x13 := x12.2
 let x14 := x13.1
 let x15 := p.2.2.2.2.2.2.2.2.2.2.2.2.2.2
 let x16 := ZSE x6 (vPck p)
 .br (x3 || (h || (x1 || (decide (vPck p < 0) || (!x5 || (!x14 || ZkE x6 (vPck p))))))) (.br (x3 || (h || (x1 || (decide (vPck p < 0) || x5)))) (.br (x2) (.br (h) (.leaf (some ((p, x15.2.1)))) (.br p.2.2.2.2.2.2.2.2.2.2.2.1 (.br (decide (vPck p < 0)) (.leaf (some ((x4, 0)))) (.leaf (some (((R.sel Za5 x14 x16 x6), u8.wrap (i64.wrap (128 + vPck p))))))) (.br p.2.2.2.2.2.2.2.2.2.2.1 (.leaf (some ((p, x15.1)))) (.leaf (some ((p, vReq p))))))) (.leaf none)) (.leaf none)) (.leaf none)
def ZOu (p : PICT) (h : Bool) : PICT × Int := getO Zxk.dflt (ZBT p h).val
def ZBV (p : PICT) (h : Bool) : Bool := okB (ZBT p h).val
def ZQS : Entry := Zf ZIs Zxk (fun a => some (ZBV a.1 a.2)) (fun a => ZOu a.1 a.2)
theorem ZOs : Zc Tryz.prog 254 ZQS :=
 pureP 8589938943 [(299, ZOw), (302, ZIq), (303, ZIP), (304, ZSx)] [] ZIs Zxk ⟨Zxm, ZBQ, ZB6, ZIr, trivial⟩ Tryz.func254 Tryz.call254 trivial (t := fun a => ZBT a.1 a.2) (fun a => by kernel_rfl)
abbrev ZQ1 : List Sh := [Sh.agg Za5]
abbrev ZIR : Rs := Rs.tup [Sh.agg Za5, Sh.one (R.int u8)]
def ZOC (p : PICT) : RT (Option (PICT × Int)) :=
 let x1 := p.2.2.2.2.2.2.2.2.2.2.2.2.2
 let x2 := x1.2
 let x3 := x2.2
 let x4 := x3.2
 let x5 := x4.2
 let x6 := x5.1
 let x7 := x6 == 0
 let x8 := !x7
 let x9 := x8 || ZEM p
 let x10 := p.2.2.2.2.2.2.2.2.2.2.2.2.1
 let x11 := x1.1
 let x12 := x2.1
 let x13 := x3.1
 let x14 := x4.1
 let x15 : PICT := (p.1, p.2.1, p.2.2.1, p.2.2.2.1, p.2.2.2.2.1, p.2.2.2.2.2.1, p.2.2.2.2.2.2.1, p.2.2.2.2.2.2.2.1, p.2.2.2.2.2.2.2.2.1, p.2.2.2.2.2.2.2.2.2.1, p.2.2.2.2.2.2.2.2.2.2.1, p.2.2.2.2.2.2.2.2.2.2.2.1, x10, x11, x12, x13, x14, 1, 7, true)
 let x16 := ZSw x15 (vPck p)
 let x17 := x16.2
 let x18 := x17.2
 let x19 := x18.2
 let x20 := x19.2
 let x21 := x20.2
 let x22 := x21.2
 let x23 := x22.2
 let x24 := x23.2
 let x25 := x24.2
 let x26 := x25.2
 let x27 := x26.2
 let x28 := x27.2
 let x29 := x28.2
 let x30 := x29.2
 let x31 := x30.2
 let x32 := x31.2
 let x33 := x5.2
 let x34 : PICT := (p.1, p.2.1, p.2.2.1, p.2.2.2.1, p.2.2.2.2.1, p.2.2.2.2.2.1, p.2.2.2.2.2.2.1, p.2.2.2.2.2.2.2.1, p.2.2.2.2.2.2.2.2.1, p.2.2.2.2.2.2.2.2.2.1, p.2.2.2.2.2.2.2.2.2.2.1, p.2.2.2.2.2.2.2.2.2.2.2.1, x10, x11, x12, x13, x14, 2, x33)
 let x35 := x33.1
 let x36 := andI i64 x35 7
 let x37 := x33.2
 let x38 := p.2.2.2.2.2.2.2.1 && !x37
 let x39 : PICT := (p.1, p.2.1, p.2.2.1, p.2.2.2.1, p.2.2.2.2.1, p.2.2.2.2.2.1, p.2.2.2.2.2.2.1, p.2.2.2.2.2.2.2.1, p.2.2.2.2.2.2.2.2.1, p.2.2.2.2.2.2.2.2.2.1, p.2.2.2.2.2.2.2.2.2.2.1, p.2.2.2.2.2.2.2.2.2.2.2.1, x10, x11, x12, x13, x14, 0, x33)
 let x40 := ZSE x39 x36
 let x41 := x40.2
 let x42 := x41.2
 let x43 := x42.2
 let x44 := x43.2
 let x45 := x44.2
 let x46 := x45.2
 let x47 : Int := bif x38 then x46.1 else p.2.2.2.2.2.2.1
 let x48 := x46.2
 let x49 := x48.2
 let x50 := x49.2
 let x51 := x50.2
 let x52 := x51.2
 let x53 := x52.2
 let x54 := x53.2
 let x55 := x54.2
 let x56 := x55.2
 let x57 := x56.2
 let x58 := x57.2
 let x59 := x58.2
 .br (!x9 || (x8 || (!decide (vPck p ≥ 0) || ZkA x15 (vPck p)))) (.br (x9) (.br (x7) (.leaf (some (((bif decide (vPck p ≥ 0) then x16.1 else p.1, bif decide (vPck p ≥ 0) then x17.1 else p.2.1, bif decide (vPck p ≥ 0) then x18.1 else p.2.2.1, bif decide (vPck p ≥ 0) then x19.1 else p.2.2.2.1, bif decide (vPck p ≥ 0) then x20.1 else p.2.2.2.2.1, bif decide (vPck p ≥ 0) then x21.1 else p.2.2.2.2.2.1, bif decide (vPck p ≥ 0) then x22.1 else p.2.2.2.2.2.2.1, bif decide (vPck p ≥ 0) then x23.1 else p.2.2.2.2.2.2.2.1, bif decide (vPck p ≥ 0) then x24.1 else p.2.2.2.2.2.2.2.2.1, bif decide (vPck p ≥ 0) then x25.1 else p.2.2.2.2.2.2.2.2.2.1, bif decide (vPck p ≥ 0) then x26.1 else p.2.2.2.2.2.2.2.2.2.2.1, bif decide (vPck p ≥ 0) then x27.1 else p.2.2.2.2.2.2.2.2.2.2.2.1, bif decide (vPck p ≥ 0) then x28.1 else x10, bif decide (vPck p ≥ 0) then x29.1 else x11, bif decide (vPck p ≥ 0) then x30.1 else x12, bif decide (vPck p ≥ 0) then x31.1 else x13, bif decide (vPck p ≥ 0) then x32.1 else x14, bif decide (vPck p ≥ 0) then x32.2.1 else 1, bif decide (vPck p ≥ 0) then vPck p else 7, !decide (vPck p ≥ 0)), 205)))) (.br (x6 == 1) (.br p.2.2.1 (.leaf (some ((x34, u8.wrap (andI u8 p.2.2.2.2.2.1 224 + u8.wrap (i64.wrap (4 * x36))))))) (.leaf (some ((x34, u8.wrap (andI u8 p.2.2.2.2.2.1 192 + u8.wrap (i64.wrap (8 * x36)))))))) (.br (!x38 || ZkE x39 x36) (.leaf (some (((bif x38 then x40.1 else p.1, bif x38 then x41.1 else p.2.1, bif x38 then x42.1 else p.2.2.1, bif x38 then x43.1 else p.2.2.2.1, bif x38 then x44.1 else p.2.2.2.2.1, bif x38 then x45.1 else p.2.2.2.2.2.1, x47, bif x38 then x48.1 else p.2.2.2.2.2.2.2.1, bif x38 then x49.1 else p.2.2.2.2.2.2.2.2.1, bif x38 then x50.1 else p.2.2.2.2.2.2.2.2.2.1, bif x38 then x51.1 else p.2.2.2.2.2.2.2.2.2.2.1, bif x38 then x52.1 else p.2.2.2.2.2.2.2.2.2.2.2.1, bif x38 then x53.1 else x10, bif x38 then x54.1 else x11, bif x38 then x55.1 else x12, bif x38 then x56.1 else x13, bif x38 then x57.1 else x14, bif x38 then x58.1 else 0, bif x38 then x59.1 else x35, bif x38 then x59.2 else x37), x47)))) (.leaf none)))) (.leaf none)) (.leaf none)
def vAck (p : PICT) : PICT × Int := getO ZIR.dflt (ZOC p).val
def ZOD (p : PICT) : Bool := okB (ZOC p).val
def ZUU : Entry := Zf ZQ1 ZIR (fun a => some (ZOD a)) (fun a => vAck a)
theorem ZSF : Zc Tryz.prog 253 ZUU :=
 pureP 134219839 [(299, ZOw), (302, ZIq), (303, ZIP)] [] ZQ1 ZIR ⟨Zxm, ZBQ, ZB6, trivial⟩ Tryz.func253 Tryz.call253 trivial (t := fun a => ZOC a) (fun a => by kernel_rfl)
abbrev Zun : List Sh := [Sh.agg (R.pair (R.int u16) (R.pair (R.int u8) (R.int i64))), Sh.one (R.int i64), Sh.one (R.int u8)]
abbrev Zuo : Rs := Rs.one (Sh.agg (R.pair (R.int u16) (R.pair (R.int u8) (R.int i64))))
def ZBO (d : QT6) (r : Int) (v : Int) : RT (QT6) :=
 .leaf ((bif andI i64 r 3 == 0 then orI u16 (andI u16 d.1 65280) (u16.wrap v) else bif andI i64 r 3 == 1 then orI u16 (andI u16 d.1 255) (shlI u16 (u16.wrap v) 8) else d.1, bif andI i64 r 3 == 0 then d.2.1 else bif andI i64 r 3 == 1 then d.2.1 else bif andI i64 r 3 == 2 then v else d.2.1, bif andI i64 r 3 == 0 then d.2.2 else bif andI i64 r 3 == 1 then d.2.2 else bif andI i64 r 3 == 2 then d.2.2 else i64.wrap v))
def Zxi (d : QT6) (r : Int) (v : Int) : QT6 := (ZBO d r v).val
def ZBP : Entry := Zf Zun Zuo (fun _ => none) (fun a => Zxi a.1 a.2.1 a.2.2)
theorem ZEL : Zc Tryz.prog 257 ZBP :=
 pureQ 2149585023 [] [] Zun Zuo trivial Tryz.func257 Tryz.call257 trivial (t := fun a => ZBO a.1 a.2.1 a.2.2) (fun a => by kernel_rfl)
abbrev ZBU : List Sh := [Sh.agg (R.pair (R.int u16) (R.pair (R.int u8) (R.int i64))), Sh.one (R.int i64)]
abbrev Zp6 : Rs := Rs.one (Sh.one (R.int u8))
def Zp5 (d : QT6) (r : Int) : RT (Option (Int)) :=
 .br (decide (0 ≤ andI i64 r 3 ∧ andI i64 r 3 < 4)) (.leaf (some (bif andI i64 r 3 == 0 then u8.wrap d.1 else bif andI i64 r 3 == iN (0 + 1) then u8.wrap (shrI u16 d.1 8) else bif andI i64 r 3 == iN (0 + 1 + 1) then d.2.1 else u8.wrap d.2.2))) (.leaf none)
def ZIw (d : QT6) (r : Int) : Int := getO Zp6.dflt (Zp5 d r).val
def Zp7 (d : QT6) (r : Int) : Bool := okB (Zp5 d r).val
def ZIv : Entry := Zf ZBU Zp6 (fun a => some (Zp7 a.1 a.2)) (fun a => ZIw a.1 a.2)
theorem ZIt : Zc Tryz.prog 255 ZIv :=
 pureP 31 [] [] ZBU Zp6 trivial Tryz.func255 Tryz.call255 trivial (t := fun a => Zp5 a.1 a.2) (fun a => by kernel_rfl)
abbrev Zos : List Sh := [Sh.agg (R.pair (R.int u16) (R.pair (R.int u8) (R.int i64)))]
abbrev Zot : Rs := Rs.one (Sh.one R.bool)
def Zuq (d : QT6) : RT (Bool) :=
 .leaf (decide (d.2.2 > 0))
def ZbZ (d : QT6) : Bool := (Zuq d).val
def ZkC : Entry := Zf Zos Zot (fun _ => none) (fun a => ZbZ a)
theorem ZkB : Zc Tryz.prog 250 ZkC :=
 pureQ 7 [] [] Zos Zot trivial Tryz.func250 Tryz.call250 trivial (t := fun a => Zuq a) (fun a => by kernel_rfl)
abbrev Zky : List Sh := [Sh.agg (R.pair (R.int u16) (R.pair (R.int u8) (R.int i64)))]
abbrev Zkz : Rs := Rs.tup [Sh.agg (R.pair (R.int u16) (R.pair (R.int u8) (R.int i64))), Sh.agg (R.pair (R.int u16) (R.int u8)), Sh.one R.bool]
def Zir (d : QT6) : RT ((QT6) × (Int × Int) × Bool) :=
 .br (!ZbZ d) (.leaf (((0, 0, 0), (0, 0), false))) (.leaf (((u16.wrap (d.1 + 1), d.2.1, i64.wrap (d.2.2 - 1)), (d.1, d.2.1), true)))
def Zhn (d : QT6) : (QT6) × (Int × Int) × Bool := (Zir d).val
def Zor : Entry := Zf Zky Zkz (fun _ => none) (fun a => Zhn a)
theorem Zup : Zc Tryz.prog 196 Zor :=
 pureQ 63 [(250, ZkC)] [] Zky Zkz ⟨ZkB, trivial⟩ Tryz.func196 Tryz.call196 trivial (t := fun a => Zir a) (fun a => by kernel_rfl)
end
end Go.Proofs.YtghoimllhpjkjaaGreat
