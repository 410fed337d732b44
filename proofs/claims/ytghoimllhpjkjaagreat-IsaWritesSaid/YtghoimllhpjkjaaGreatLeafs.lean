/-
  Contracts of functions; each found by the symbolic executor and checked by the kernel. Conditions: none.
-/
import Derived.Test.YtghoimllhpjkjaaGreatS3D
import Derived.Test.YtghoimllhpjkjaaGreatProg
open Go.IntKind (u8 u16 i64)
set_option linter.unusedSimpArgs false
open Go Go.S3 Go.Proofs
set_option linter.unusedVariables false
set_option maxRecDepth 100000
namespace Go.Proofs.YtghoimllhpjkjaaGreat
noncomputable section
abbrev Zrc : List Sh := [Sh.one (R.int u8)]
abbrev Zki : Rs := Rs.one (Sh.one R.bool)
def Zop (b : Int) : RT (Option (Bool)) :=
 let x1 := andI u8 (andI u8 b (u8.wrap (b - 1))) (u8.wrap (andI u8 b (u8.wrap (b - 1)) - 1))
 let x2 := !x1 != 0
 let x3 := andI u8 x1 (u8.wrap (x1 - 1))
 let x4 := x3 != 0
 let x5 := andI u8 x3 (u8.wrap (x3 - 1))
 let x6 := !x5 != 0
 let x7 := andI u8 x5 (u8.wrap (x5 - 1))
 let x8 := x7 != 0
 let x9 := andI u8 x7 (u8.wrap (x7 - 1))
 let x10 := !x9 != 0
 let x11 := andI u8 x9 (u8.wrap (x9 - 1))
 let x12 := x11 != 0
 let x13 := andI u8 x11 (u8.wrap (x11 - 1))
 let x14 := !x13 != 0
 .br (!b != 0 || (!andI u8 b (u8.wrap (b - 1)) != 0 || (x2 || (!x4 || (x6 || (!x8 || (x10 || (!x12 || (x14 || !andI u8 x13 (u8.wrap (x13 - 1)) != 0))))))))) (.leaf (some (!b != 0 || andI u8 b (u8.wrap (b - 1)) != 0 && (x2 || x4 && (x6 || x8 && (x10 || x12 && x14)))))) (.leaf none)
def Zoq (b : Int) : Bool := getO Zki.dflt (Zop b).val
def ZiC (b : Int) : Bool := okB (Zop b).val
def Zw6 : Entry := Zm Zrc Zki (fun a => some (ZiC a)) (fun a => Zoq a)
theorem ZyW : Zb Tryz.prog 334 Zw6 :=
 Zj5 (P := Tryz.prog) (n := 15) (k := 10) (l := []) (ol := []) trivial Tryz.func334 rfl (by kernel_rfl) Tryz.call334 trivial (ts := Zrc) (rs := Zki) (t := fun a => Zop a) (fun a => by kernel_rfl)
abbrev ZIx : List Sh := [Sh.one R.bool, Sh.one R.bool, Sh.one R.bool]
abbrev ZIy : Rs := Rs.one (Sh.one R.bool)
def ZL8 (a : Bool) (b : Bool) (c : Bool) : RT (Bool) :=
 .leaf (bif a then b || bif a then c || b && c else b && c else bif a then c || b && c else b && c)
def pMaj (a : Bool) (b : Bool) (c : Bool) : Bool := (ZL8 a b c).val
def Zy6 : Entry := Zm ZIx ZIy (fun _ => none) (fun a => pMaj a.1 a.2.1 a.2.2)
theorem ZkV : Zb Tryz.prog 315 Zy6 :=
 pureQ 127 [] [] ZIx ZIy trivial Tryz.func315 Tryz.call315 trivial (t := fun a => ZL8 a.1 a.2.1 a.2.2) (fun a => by kernel_rfl)
abbrev ZIu : List Sh := [Sh.one R.bool]
abbrev ZIv : Rs := Rs.one (Sh.one (R.int i64))
def ZL6 (b : Bool) : RT (Int) :=
 .br (b) (.leaf (1)) (.leaf (0))
def pOne (b : Bool) : Int := (ZL6 b).val
def ZJ4 : Entry := Zm ZIu ZIv (fun _ => none) (fun a => pOne a)
theorem ZCW : Zb Tryz.prog 332 ZJ4 :=
 pureQ 7 [] [] ZIu ZIv trivial Tryz.func332 Tryz.call332 trivial (t := fun a => ZL6 a) (fun a => by kernel_rfl)
abbrev Zq7 : List Sh := [Sh.one (R.int i64)]
abbrev Zq8 : Rs := Rs.one (Sh.one R.bool)
def Ziz (n : Int) : RT (Bool) :=
 .leaf (decide (n < -128) || decide (n > 127))
def Zka (n : Int) : Bool := (Ziz n).val
def Zoj : Entry := Zm Zq7 Zq8 (fun _ => none) (fun a => Zka a)
theorem ZmJ : Zb Tryz.prog 333 Zoj :=
 pureQ 7 [] [] Zq7 Zq8 trivial Tryz.func333 Tryz.call333 trivial (t := fun a => Ziz a) (fun a => by kernel_rfl)
abbrev ZIq : List Sh := [Sh.one (R.int u8), Sh.one (R.int u8), Sh.one R.bool]
abbrev ZIr : Rs := Rs.tup [Sh.one (R.int u8), Sh.one R.bool, Sh.one R.bool, Sh.one R.bool]
def ZJR (a : Int) (b : Int) (c : Bool) : RT (QT20) :=
 let x1 := i64.wrap (i64.wrap (i64.wrap a + i64.wrap b) + pOne c)
 .leaf ((u8.wrap x1, decide (x1 > 255), decide (i64.wrap (i64.wrap (i64.wrap (andI u8 a 15) + i64.wrap (andI u8 b 15)) + pOne c) > 15), Zka (i64.wrap (i64.wrap (i64.wrap (IntKind.i8.wrap a) + i64.wrap (IntKind.i8.wrap b)) + pOne c))))
def pSum (a : Int) (b : Int) (c : Bool) : QT20 := (ZJR a b c).val
def ZGs : Entry := Zm ZIq ZIr (fun _ => none) (fun a => pSum a.1 a.2.1 a.2.2)
theorem ZtQ : Zb Tryz.prog 312 ZGs :=
 pureQ 4095 [(332, ZJ4), (333, Zoj)] [] ZIq ZIr ⟨ZCW, ZmJ, trivial⟩ Tryz.func312 Tryz.call312 trivial (t := fun a => ZJR a.1 a.2.1 a.2.2) (fun a => by kernel_rfl)
abbrev ZDx : List Sh := [Sh.one (R.int u8), Sh.one (R.int u8), Sh.one R.bool]
abbrev ZDz : Rs := Rs.tup [Sh.one (R.int u8), Sh.one R.bool, Sh.one R.bool, Sh.one R.bool]
def ZDy (a : Int) (b : Int) (c : Bool) : RT (QT20) :=
 let x1 := i64.wrap (i64.wrap (i64.wrap a - i64.wrap b) - pOne c)
 .leaf ((u8.wrap x1, decide (x1 < 0), decide (i64.wrap (i64.wrap (i64.wrap (i64.wrap (i64.wrap (andI u8 a 15) + 15) - i64.wrap (andI u8 b 15)) + 1) - pOne c) > 15), Zka (i64.wrap (i64.wrap (i64.wrap (IntKind.i8.wrap a) - i64.wrap (IntKind.i8.wrap b)) - pOne c))))
def ZfJ (a : Int) (b : Int) (c : Bool) : QT20 := (ZDy a b c).val
def Zxp : Entry := Zm ZDx ZDz (fun _ => none) (fun a => ZfJ a.1 a.2.1 a.2.2)
theorem Zpl : Zb Tryz.prog 313 Zxp :=
 pureQ 4095 [(332, ZJ4), (333, Zoj)] [] ZDx ZDz ⟨ZCW, ZmJ, trivial⟩ Tryz.func313 Tryz.call313 trivial (t := fun a => ZDy a.1 a.2.1 a.2.2) (fun a => by kernel_rfl)
abbrev ZuI : List Sh := [Sh.one (R.int u8), Sh.one (R.int u8)]
abbrev ZuJ : Rs := Rs.one (Sh.one (R.int u16))
def ZIB (h : Int) (l : Int) : RT (Int) :=
 .leaf (orI u16 (shlI u16 (u16.wrap h) 8) (u16.wrap l))
def ZDa (h : Int) (l : Int) : Int := (ZIB h l).val
def Zxe : Entry := Zm ZuI ZuJ (fun _ => none) (fun a => ZDa a.1 a.2)
theorem ZiE : Zb Tryz.prog 236 Zxe :=
 pureQ 31 [] [] ZuI ZuJ trivial Tryz.func236 Tryz.call236 trivial (t := fun a => ZIB a.1 a.2) (fun a => by kernel_rfl)
abbrev ZID : List Sh := [Sh.one R.bool, Sh.one (R.int i64)]
abbrev ZDK : Rs := Rs.one (Sh.one (R.int u8))
def ZGV (b : Bool) (n : Int) : RT (Option (Int)) :=
 .br (!b || decide (0 ≤ n)) (.br (b) (.leaf (some (shlI u8 1 n))) (.leaf (some (0)))) (.leaf none)
def pBit (b : Bool) (n : Int) : Int := getO ZDK.dflt (ZGV b n).val
def Zds (b : Bool) (n : Int) : Bool := okB (ZGV b n).val
def ZMd : Entry := Zm ZID ZDK (fun a => some (Zds a.1 a.2)) (fun a => pBit a.1 a.2)
theorem ZKq : Zb Tryz.prog 335 ZMd :=
 pureP 31 [] [] ZID ZDK trivial Tryz.func335 Tryz.call335 trivial (t := fun a => ZGV a.1 a.2) (fun a => by kernel_rfl)
abbrev ZCT : List Sh := [Sh.one (R.int i64), Sh.agg rcF7]
abbrev Zt1 : Rs := Rs.one (Sh.one (R.int u8))
def Zrd (chip : Int) (f : TF) : RT (Option (Int)) :=
 let x1 := orI u8 (orI u8 (orI u8 (orI u8 (pBit f.1 7) (pBit f.2.1 6)) (pBit f.2.2.2.1 4)) (pBit f.2.2.2.2.1 2)) (pBit f.2.2.2.2.2.2 0)
 .br (!Zds f.1 7 || (!Zds f.2.1 6 || (!Zds f.2.2.2.1 4 || (!Zds f.2.2.2.2.1 2 || Zds f.2.2.2.2.2.2 0)))) (.br (!Zds f.1 7 || (!Zds f.2.1 6 || (!Zds f.2.2.2.1 4 || Zds f.2.2.2.2.1 2))) (.br (!Zds f.1 7 || (!Zds f.2.1 6 || Zds f.2.2.2.1 4)) (.br (!Zds f.1 7 || Zds f.2.1 6) (.br (Zds f.1 7) (.br (!chip == 2 || (!Zds f.2.2.1 5 || Zds f.2.2.2.2.2.1 1)) (.br (!chip == 2 || Zds f.2.2.1 5) (.br (chip == 2) (.leaf (some (orI u8 (orI u8 x1 (pBit f.2.2.1 5)) (pBit f.2.2.2.2.2.1 1)))) (.leaf (some (orI u8 x1 2)))) (.leaf none)) (.leaf none)) (.leaf none)) (.leaf none)) (.leaf none)) (.leaf none)) (.leaf none)
def ZGD (chip : Int) (f : TF) : Int := getO Zt1.dflt (Zrd chip f).val
def Zw7 (chip : Int) (f : TF) : Bool := okB (Zrd chip f).val
def ZIt : Entry := Zm ZCT Zt1 (fun a => some (Zw7 a.1 a.2)) (fun a => ZGD a.1 a.2)
theorem ZGC : Zb Tryz.prog 324 ZIt :=
 pureP 63 [(335, ZMd)] [] ZCT Zt1 ⟨ZKq, trivial⟩ Tryz.func324 Tryz.call324 trivial (t := fun a => Zrd a.1 a.2) (fun a => by kernel_rfl)
abbrev Zq5 : List Sh := [Sh.one (R.int i64), Sh.one (R.int u8)]
abbrev Zq6 : Rs := Rs.one (Sh.agg rcF7)
def Zoh (chip : Int) (b : Int) : RT TF :=
 .leaf ((andI u8 b 128 != 0, andI u8 b 64 != 0, chip == 2 && andI u8 b 32 != 0, andI u8 b 16 != 0, andI u8 b 4 != 0, chip == 2 && andI u8 b 2 != 0, andI u8 b 1 != 0))
def Zoi (chip : Int) (b : Int) : TF := (Zoh chip b).val
def Zw1 : Entry := Zm Zq5 Zq6 (fun _ => none) (fun a => Zoi a.1 a.2)
theorem ZyT : Zb Tryz.prog 323 Zw1 :=
 pureQ 63 [] [] Zq5 Zq6 trivial Tryz.func323 Tryz.call323 trivial (t := fun a => Zoh a.1 a.2) (fun a => by kernel_rfl)
abbrev ZL7 : List Sh := [Sh.one (R.int u8)]
abbrev ZJ6 : Rs := Rs.one (Sh.agg rcF7)
def pOfT (r : Int) : RT (Option TF) :=
 .br (ZiC r) (.leaf (some ((decide (r ≥ 128), r == 0, false, false, Zoq r, false, false)))) (.leaf none)
def pOf (r : Int) : TF := getO ZJ6.dflt (pOfT r).val
def pOfC (r : Int) : Bool := okB (pOfT r).val
def pOfE : Entry := Zm ZL7 ZJ6 (fun a => some (pOfC a)) (fun a => pOf a)
theorem Zre : Zb Tryz.prog 314 pOfE :=
 pureP 7 [(334, Zw6)] [] ZL7 ZJ6 ⟨ZyW, trivial⟩ Tryz.func314 Tryz.call314 trivial (t := fun a => pOfT a) (fun a => by kernel_rfl)
def Zlz : Entry := .tree (ZI (envX Tryz.prog [] [] 141872468127 8) Tryz.f310)
theorem Zly : Zb Tryz.prog 310 Zlz := Zab (P := Tryz.prog) (n := 141872468127) (k := 8) (l := []) (ol := []) trivial Tryz.func310 rfl (by kernel_rfl) Tryz.call310 trivial
abbrev ZDi : List Sh := [Sh.agg Zf6, Sh.one (R.int i64)]
abbrev ZDj : Rs := Rs.one (Sh.one (R.int u8))
def ZKc (r : TR) (n : Int) : RT (Int) :=
 .br (andI i64 n 7 == 0) (.leaf r.2.1) (.br (andI i64 n 7 == 1) (.leaf r.2.2.1) (.br (andI i64 n 7 == 2) (.leaf r.2.2.2.1) (.br (andI i64 n 7 == 3) (.leaf r.2.2.2.2.1) (.br (andI i64 n 7 == 4) (.leaf r.2.2.2.2.2.1) (.br (andI i64 n 7 == 5) (.leaf r.2.2.2.2.2.2.1) (.br (andI i64 n 7 == 7) (.leaf r.1) (.leaf (0))))))))
def pGet (r : TR) (n : Int) : Int := (ZKc r n).val
def ZMa : Entry := Zm ZDi ZDj (fun _ => none) (fun a => pGet a.1 a.2)
theorem ZDh : Zb Tryz.prog 287 ZMa :=
 pureQ 63 [(310, Zlz)] [] ZDi ZDj ⟨Zly, trivial⟩ Tryz.func287 Tryz.call287 trivial (t := fun a => ZKc a.1 a.2) (fun a => by kernel_rfl)
abbrev ZCE : List Sh := [Sh.agg Zf6, Sh.one (R.int i64), Sh.one (R.int u8)]
abbrev ZCF : Rs := Rs.one (Sh.agg Zf6)
def ZJU (r : TR) (n : Int) (v : Int) : RT TR :=
 .br (andI i64 n 7 == 0) (.leaf ((r.1, v, r.2.2))) (.br (andI i64 n 7 == 1) (.leaf ((r.1, r.2.1, v, r.2.2.2))) (.br (andI i64 n 7 == 2) (.leaf ((r.1, r.2.1, r.2.2.1, v, r.2.2.2.2))) (.br (andI i64 n 7 == 3) (.leaf ((r.1, r.2.1, r.2.2.1, r.2.2.2.1, v, r.2.2.2.2.2))) (.br (andI i64 n 7 == 4) (.leaf ((r.1, r.2.1, r.2.2.1, r.2.2.2.1, r.2.2.2.2.1, v, r.2.2.2.2.2.2))) (.br (andI i64 n 7 == 5) (.leaf ((r.1, r.2.1, r.2.2.1, r.2.2.2.1, r.2.2.2.2.1, r.2.2.2.2.2.1, v, r.2.2.2.2.2.2.2))) (.br (andI i64 n 7 == 7) (.leaf ((v, r.2))) (.leaf (r))))))))
def pSet (r : TR) (n : Int) (v : Int) : TR := (ZJU r n v).val
def ZL3 : Entry := Zm ZCE ZCF (fun _ => none) (fun a => pSet a.1 a.2.1 a.2.2)
theorem ZCD : Zb Tryz.prog 268 ZL3 :=
 pureQ 255 [(310, Zlz)] [] ZCE ZCF ⟨Zly, trivial⟩ Tryz.func268 Tryz.call268 trivial (t := fun a => ZJU a.1 a.2.1 a.2.2) (fun a => by kernel_rfl)
abbrev ZtZ : List Sh := [Sh.agg Zf6, Sh.one (R.int i64)]
abbrev Zt0 : Rs := Rs.one (Sh.one (R.int u16))
def ZCQ (r : TR) (n : Int) : RT (Int) :=
 .br (andI i64 n 3 == 3) (.leaf r.2.2.2.2.2.2.2.2.1) (.leaf (ZDa (pGet r (i64.wrap (2 * andI i64 n 3))) (pGet r (i64.wrap (i64.wrap (2 * andI i64 n 3) + 1)))))
def ZJ1 (r : TR) (n : Int) : Int := (ZCQ r n).val
def ZL5 : Entry := Zm ZtZ Zt0 (fun _ => none) (fun a => ZJ1 a.1 a.2)
theorem ZGB : Zb Tryz.prog 286 ZL5 :=
 pureQ 31 [(236, Zxe), (287, ZMa)] [] ZtZ Zt0 ⟨ZiE, ZDh, trivial⟩ Tryz.func286 Tryz.call286 trivial (t := fun a => ZCQ a.1 a.2) (fun a => by kernel_rfl)
abbrev Zhg : List Sh := [Sh.agg Zf6, Sh.one (R.int i64), Sh.one (R.int u16)]
abbrev Zhh : Rs := Rs.one (Sh.agg Zf6)
def Zkb (r : TR) (n : Int) (v : Int) : RT TR :=
 .br (andI i64 n 3 == 3) (.leaf ((r.1, r.2.1, r.2.2.1, r.2.2.2.1, r.2.2.2.2.1, r.2.2.2.2.2.1, r.2.2.2.2.2.2.1, r.2.2.2.2.2.2.2.1, v, r.2.2.2.2.2.2.2.2.2))) (.leaf (pSet (pSet r (i64.wrap (2 * andI i64 n 3)) (u8.wrap (shrI u16 v 8))) (i64.wrap (i64.wrap (2 * andI i64 n 3) + 1)) (u8.wrap v)))
def Zok (r : TR) (n : Int) (v : Int) : TR := (Zkb r n v).val
def ZCG : Entry := Zm Zhg Zhh (fun _ => none) (fun a => Zok a.1 a.2.1 a.2.2)
theorem ZtR : Zb Tryz.prog 269 ZCG :=
 pureQ 127 [(268, ZL3)] [] Zhg Zhh ⟨ZCD, trivial⟩ Tryz.func269 Tryz.call269 trivial (t := fun a => Zkb a.1 a.2.1 a.2.2) (fun a => by kernel_rfl)
abbrev ZCU : List Sh := [Sh.one (R.int i64), Sh.agg Zf6]
abbrev Zw8 : Rs := Rs.one (Sh.one (R.int u16))
def ZGE (chip : Int) (r : TR) : RT (Option (Int)) :=
 .br (Zw7 chip r.2.2.2.2.2.2.2.1) (.leaf (some (ZDa r.1 (ZGD chip r.2.2.2.2.2.2.2.1)))) (.leaf none)
def pPSW (chip : Int) (r : TR) : Int := getO Zw8.dflt (ZGE chip r).val
def ZJ3 (chip : Int) (r : TR) : Bool := okB (ZGE chip r).val
def pPSWE : Entry := Zm ZCU Zw8 (fun a => some (ZJ3 a.1 a.2)) (fun a => pPSW a.1 a.2)
theorem ZJ2 : Zb Tryz.prog 290 pPSWE :=
 pureP 31 [(236, Zxe), (324, ZIt)] [] ZCU Zw8 ⟨ZiE, ZGC, trivial⟩ Tryz.func290 Tryz.call290 trivial (t := fun a => ZGE a.1 a.2) (fun a => by kernel_rfl)
abbrev Zkc : List Sh := [Sh.one (R.int i64), Sh.agg Zf6, Sh.one (R.int u16)]
abbrev Zkd : Rs := Rs.one (Sh.agg Zf6)
def Zol (chip : Int) (r : TR) (v : Int) : RT TR :=
 .leaf ((u8.wrap (shrI u16 v 8), r.2.1, r.2.2.1, r.2.2.2.1, r.2.2.2.2.1, r.2.2.2.2.2.1, r.2.2.2.2.2.2.1, Zoi chip (u8.wrap v), r.2.2.2.2.2.2.2.2))
def ZtT (chip : Int) (r : TR) (v : Int) : TR := (Zol chip r v).val
def ZGu : Entry := Zm Zkc Zkd (fun _ => none) (fun a => ZtT a.1 a.2.1 a.2.2)
theorem ZyU : Zb Tryz.prog 281 ZGu :=
 pureQ 127 [(323, Zw1)] [] Zkc Zkd ⟨ZyT, trivial⟩ Tryz.func281 Tryz.call281 trivial (t := fun a => Zol a.1 a.2.1 a.2.2) (fun a => by kernel_rfl)
abbrev Zxa : List Sh := [Sh.one (R.int i64), Sh.one (R.int i64), Sh.one (R.int u8), Sh.one (R.int u8)]
abbrev ZoB : Rs := Rs.tup [Sh.one (R.int u8), Sh.agg rcF7]
def ZkW (chip : Int) (op : Int) (a : Int) (b : Int) : RT (Option (QT3)) :=
 let x1 : Int := bif op == 4 then andI u8 a b else bif op == 5 then xorI u8 a b else bif op == 6 then orI u8 a b else 0
 let x2 := pOf x1
 let x3 := x2.2
 let x4 := x3.2
 .br (pOfC x1) (.leaf (some ((x1, x2.1, x3.1, bif chip == 2 then pMaj (decide (a ≥ 128)) (decide (b ≥ 128)) (decide (x1 ≥ 128)) else x4.1, op == 4 && (chip == 2 || andI u8 (orI u8 a b) 8 != 0), x4.2.2)))) (.leaf none)
def Zxb (chip : Int) (op : Int) (a : Int) (b : Int) : QT3 := getO ZoB.dflt (ZkW chip op a b).val
def ZoC (chip : Int) (op : Int) (a : Int) (b : Int) : Bool := okB (ZkW chip op a b).val
def ZC5 : Entry := Zm Zxa ZoB (fun a => some (ZoC a.1 a.2.1 a.2.2.1 a.2.2.2)) (fun a => Zxb a.1 a.2.1 a.2.2.1 a.2.2.2)
theorem ZC4 : Zb Tryz.prog 311 ZC5 :=
 pureP 8858394623 [(314, pOfE), (315, Zy6)] [] Zxa ZoB ⟨Zre, ZkV, trivial⟩ Tryz.func311 Tryz.call311 trivial (t := fun a => ZkW a.1 a.2.1 a.2.2.1 a.2.2.2) (fun a => by kernel_rfl)
abbrev ZKf : List Sh := [Sh.one (R.int i64), Sh.one (R.int i64), Sh.one (R.int u8), Sh.one (R.int u8), Sh.agg rcF7]
abbrev ZGO : Rs := Rs.tup [Sh.one (R.int u8), Sh.agg rcF7]
def pDoT (chip : Int) (op : Int) (a : Int) (b : Int) (f : TF) : RT (Option (QT3)) :=
 let x1 := decide (andI i64 op 7 ≥ 4) && decide (andI i64 op 7 ≤ 6)
 let x2 := f.2.2.2.2.2.2 && (andI i64 op 7 == 1 || andI i64 op 7 == 3)
 let x3 := ZfJ a b x2
 let x4 := x3.1
 let x5 := pOf x4
 let x6 := x5.2
 let x7 := x6.2
 let x8 := x3.2
 let x9 := x8.2
 let x10 := x7.2.2
 let x11 : TF := (x5.1, x6.1, bif chip == 2 then pMaj (decide (a ≥ 128)) (decide (b < 128)) (decide (x4 ≥ 128)) else x7.1, x9.1, x10.1, bif chip == 2 then x9.2 else x10.2.1, x8.1)
 let x12 := pSum a b x2
 let x13 := x12.1
 let x14 := pOf x13
 let x15 := x14.2
 let x16 := x15.2
 let x17 := x12.2
 let x18 := x17.2
 let x19 := x16.2.2
 let x20 : TF := (x14.1, x15.1, bif chip == 2 then pMaj (decide (a ≥ 128)) (decide (b ≥ 128)) (decide (x13 ≥ 128)) else x16.1, x18.1, x19.1, bif chip == 2 then x18.2 else x19.2.1, x17.1)
 .br (!x1 || ZoC chip (andI i64 op 7) a b) (.br (x1) (.leaf (some (Zxb chip (andI i64 op 7) a b))) (.br (andI i64 op 7 != 0 && andI i64 op 7 != 1) (.br (pOfC x4) (.br (andI i64 op 7 == 7) (.leaf (some ((a, x11)))) (.leaf (some ((x4, x11))))) (.leaf none)) (.br (pOfC x13) (.br (andI i64 op 7 == 7) (.leaf (some ((a, x20)))) (.leaf (some ((x13, x20))))) (.leaf none)))) (.leaf none)
def pDo (chip : Int) (op : Int) (a : Int) (b : Int) (f : TF) : QT3 := getO ZGO.dflt (pDoT chip op a b f).val
def pDoC (chip : Int) (op : Int) (a : Int) (b : Int) (f : TF) : Bool := okB (pDoT chip op a b f).val
def pDoE : Entry := Zm ZKf ZGO (fun a => some (pDoC a.1 a.2.1 a.2.2.1 a.2.2.2.1 a.2.2.2.2)) (fun a => pDo a.1 a.2.1 a.2.2.1 a.2.2.2.1 a.2.2.2.2)
theorem ZMc : Zb Tryz.prog 271 pDoE :=
 pureP 1048575 [(311, ZC5), (312, ZGs), (313, Zxp), (314, pOfE), (315, Zy6)] [] ZKf ZGO ⟨ZC4, ZtQ, Zpl, Zre, ZkV, trivial⟩ Tryz.func271 Tryz.call271 trivial (t := fun a => pDoT a.1 a.2.1 a.2.2.1 a.2.2.2.1 a.2.2.2.2) (fun a => by kernel_rfl)
abbrev Zrb : List Sh := [Sh.one (R.int i64), Sh.one (R.int u8), Sh.one (R.int u8), Sh.one R.bool, Sh.one R.bool, Sh.one R.bool, Sh.agg rcF7]
abbrev Zkf : Rs := Rs.one (Sh.agg rcF7)
def ZiA (chip : Int) (v : Int) (r : Int) (half : Bool) (over : Bool) (x : Bool) (f : TF) : RT (Option TF) :=
 .br (pOfC r) (.leaf (some (((pOf r).1, (pOf r).2.1, bif chip == 2 then pMaj (decide (v ≥ 128)) x (decide (r ≥ 128)) else (pOf r).2.2.1, half, (pOf r).2.2.2.2.1, bif chip == 2 then over else (pOf r).2.2.2.2.2.1, f.2.2.2.2.2.2)))) (.leaf none)
def Zkg (chip : Int) (v : Int) (r : Int) (half : Bool) (over : Bool) (x : Bool) (f : TF) : TF := getO Zkf.dflt (ZiA chip v r half over x f).val
def Zgp (chip : Int) (v : Int) (r : Int) (half : Bool) (over : Bool) (x : Bool) (f : TF) : Bool := okB (ZiA chip v r half over x f).val
def Zom : Entry := Zm Zrb Zkf (fun a => some (Zgp a.1 a.2.1 a.2.2.1 a.2.2.2.1 a.2.2.2.2.1 a.2.2.2.2.2.1 a.2.2.2.2.2.2)) (fun a => Zkg a.1 a.2.1 a.2.2.1 a.2.2.2.1 a.2.2.2.2.1 a.2.2.2.2.2.1 a.2.2.2.2.2.2)
theorem ZmK : Zb Tryz.prog 316 Zom :=
 pureP 65535 [(314, pOfE), (315, Zy6)] [] Zrb Zkf ⟨Zre, ZkV, trivial⟩ Tryz.func316 Tryz.call316 trivial (t := fun a => ZiA a.1 a.2.1 a.2.2.1 a.2.2.2.1 a.2.2.2.2.1 a.2.2.2.2.2.1 a.2.2.2.2.2.2) (fun a => by kernel_rfl)
abbrev ZDe : List Sh := [Sh.one (R.int i64), Sh.one (R.int u8), Sh.agg rcF7]
abbrev Zxf : Rs := Rs.tup [Sh.one (R.int u8), Sh.agg rcF7]
def ZGJ (chip : Int) (v : Int) (f : TF) : RT (Option (QT3)) :=
 .br (Zgp chip v (pSum v 1 false).1 (pSum v 1 false).2.2.1 (pSum v 1 false).2.2.2 false f) (.leaf (some (((pSum v 1 false).1, Zkg chip v (pSum v 1 false).1 (pSum v 1 false).2.2.1 (pSum v 1 false).2.2.2 false f)))) (.leaf none)
def pInr (chip : Int) (v : Int) (f : TF) : QT3 := getO Zxf.dflt (ZGJ chip v f).val
def ZKa (chip : Int) (v : Int) (f : TF) : Bool := okB (ZGJ chip v f).val
def pInrE : Entry := Zm ZDe Zxf (fun a => some (ZKa a.1 a.2.1 a.2.2)) (fun a => pInr a.1 a.2.1 a.2.2)
theorem ZJ9 : Zb Tryz.prog 273 pInrE :=
 pureP 4095 [(312, ZGs), (316, Zom)] [] ZDe Zxf ⟨ZtQ, ZmK, trivial⟩ Tryz.func273 Tryz.call273 trivial (t := fun a => ZGJ a.1 a.2.1 a.2.2) (fun a => by kernel_rfl)
abbrev ZDE : List Sh := [Sh.one (R.int i64), Sh.one (R.int u8), Sh.agg rcF7]
abbrev Zxr : Rs := Rs.tup [Sh.one (R.int u8), Sh.agg rcF7]
def ZGR (chip : Int) (v : Int) (f : TF) : RT (Option (QT3)) :=
 .br (Zgp chip v (ZfJ v 1 false).1 (ZfJ v 1 false).2.2.1 (ZfJ v 1 false).2.2.2 true f) (.leaf (some (((ZfJ v 1 false).1, Zkg chip v (ZfJ v 1 false).1 (ZfJ v 1 false).2.2.1 (ZfJ v 1 false).2.2.2 true f)))) (.leaf none)
def pDcr (chip : Int) (v : Int) (f : TF) : QT3 := getO Zxr.dflt (ZGR chip v f).val
def ZKl (chip : Int) (v : Int) (f : TF) : Bool := okB (ZGR chip v f).val
def pDcrE : Entry := Zm ZDE Zxr (fun a => some (ZKl a.1 a.2.1 a.2.2)) (fun a => pDcr a.1 a.2.1 a.2.2)
theorem ZKk : Zb Tryz.prog 274 pDcrE :=
 pureP 4095 [(313, Zxp), (316, Zom)] [] ZDE Zxr ⟨Zpl, ZmK, trivial⟩ Tryz.func274 Tryz.call274 trivial (t := fun a => ZGR a.1 a.2.1 a.2.2) (fun a => by kernel_rfl)
abbrev ZDb : List Sh := [Sh.one (R.int i64), Sh.one (R.int u16), Sh.agg rcF7]
abbrev ZDc : Rs := Rs.tup [Sh.one (R.int u16), Sh.agg rcF7]
def ZJ8 (chip : Int) (v : Int) (f : TF) : RT (QT3) :=
 .leaf ((u16.wrap (v + 1), f.1, f.2.1, bif chip == 2 then v == 65535 else f.2.2.1, f.2.2.2))
def pInx (chip : Int) (v : Int) (f : TF) : QT3 := (ZJ8 chip v f).val
def pInxE : Entry := Zm ZDb ZDc (fun _ => none) (fun a => pInx a.1 a.2.1 a.2.2)
theorem ZJ7 : Zb Tryz.prog 275 pInxE :=
 pureQ 255 [] [] ZDb ZDc trivial Tryz.func275 Tryz.call275 trivial (t := fun a => ZJ8 a.1 a.2.1 a.2.2) (fun a => by kernel_rfl)
abbrev ZDB : List Sh := [Sh.one (R.int i64), Sh.one (R.int u16), Sh.agg rcF7]
abbrev ZDC : Rs := Rs.tup [Sh.one (R.int u16), Sh.agg rcF7]
def ZKj (chip : Int) (v : Int) (f : TF) : RT (QT3) :=
 .leaf ((u16.wrap (v - 1), f.1, f.2.1, bif chip == 2 then v == 0 else f.2.2.1, f.2.2.2))
def pDcx (chip : Int) (v : Int) (f : TF) : QT3 := (ZKj chip v f).val
def pDcxE : Entry := Zm ZDB ZDC (fun _ => none) (fun a => pDcx a.1 a.2.1 a.2.2)
theorem ZKi : Zb Tryz.prog 276 pDcxE :=
 pureQ 255 [] [] ZDB ZDC trivial Tryz.func276 Tryz.call276 trivial (t := fun a => ZKj a.1 a.2.1 a.2.2) (fun a => by kernel_rfl)
abbrev ZDF : List Sh := [Sh.one (R.int i64), Sh.one (R.int u16), Sh.one (R.int u16), Sh.agg rcF7]
abbrev ZDG : Rs := Rs.tup [Sh.one (R.int u16), Sh.agg rcF7]
def ZKn (chip : Int) (a : Int) (b : Int) (f : TF) : RT (QT3) :=
 .leaf ((u16.wrap (a + b), f.1, f.2.1, f.2.2.1, f.2.2.2.1, f.2.2.2.2.1, bif chip == 2 then andI u16 (andI u16 (xorI u16 a (u16.wrap (a + b))) (xorI u16 b (u16.wrap (a + b)))) 32768 != 0 else f.2.2.2.2.2.1, decide (u16.wrap (a + b) < a)))
def pDad (chip : Int) (a : Int) (b : Int) (f : TF) : QT3 := (ZKn chip a b f).val
def pDadE : Entry := Zm ZDF ZDG (fun _ => none) (fun a => pDad a.1 a.2.1 a.2.2.1 a.2.2.2)
theorem ZKm : Zb Tryz.prog 277 pDadE :=
 pureQ 2047 [] [] ZDF ZDG trivial Tryz.func277 Tryz.call277 trivial (t := fun a => ZKn a.1 a.2.1 a.2.2.1 a.2.2.2) (fun a => by kernel_rfl)
abbrev ZuX : List Sh := [Sh.one (R.int u16), Sh.one (R.int u16)]
abbrev Zpk : Rs := Rs.tup [Sh.one (R.int u16), Sh.agg rcF7]
def Zxo (a : Int) (b : Int) : RT (Option (QT3)) :=
 let x1 := ZfJ (u8.wrap (shrI u16 a 8)) (u8.wrap (shrI u16 b 8)) (ZfJ (u8.wrap a) (u8.wrap b) false).2.1
 let x2 := x1.1
 let x3 := pOf x2
 let x4 := x1.2
 let x5 := x4.2
 .br (pOfC x2) (.leaf (some ((ZDa x2 (ZfJ (u8.wrap a) (u8.wrap b) false).1, x3.1, x2 == 0 && (ZfJ (u8.wrap a) (u8.wrap b) false).1 == 0, pMaj (decide (a ≥ 32768)) (decide (b < 32768)) (decide (x2 ≥ 128)), x5.1, x3.2.2.2.2.1, x5.2, x4.1)))) (.leaf none)
def ZKe (a : Int) (b : Int) : QT3 := getO Zpk.dflt (Zxo a b).val
def ZDv (a : Int) (b : Int) : Bool := okB (Zxo a b).val
def ZMb : Entry := Zm ZuX Zpk (fun a => some (ZDv a.1 a.2)) (fun a => ZKe a.1 a.2)
theorem ZGN : Zb Tryz.prog 283 ZMb :=
 pureP 32767 [(236, Zxe), (313, Zxp), (314, pOfE), (315, Zy6)] [] ZuX Zpk ⟨ZiE, Zpl, Zre, ZkV, trivial⟩ Tryz.func283 Tryz.call283 trivial (t := fun a => Zxo a.1 a.2) (fun a => by kernel_rfl)
abbrev ZDI : List Sh := [Sh.one (R.int i64), Sh.one (R.int u8), Sh.agg rcF7]
abbrev Zxu : Rs := Rs.tup [Sh.one (R.int u8), Sh.agg rcF7]
def ZGT (chip : Int) (a : Int) (f : TF) : RT (Option (QT3)) :=
 let x1 : Int := bif f.2.2.2.1 || decide (andI u8 a 15 > 9) then 6 else 0
 let x2 := pSum a (bif f.2.2.2.2.2.2 || decide (a > 153) then u8.wrap (x1 + 96) else x1) false
 let x3 := x2.1
 let x4 := pOf x3
 let x5 := x4.2
 let x6 := x5.2
 let x7 := x2.2.2
 let x8 := x6.2.2
 .br (pOfC x3) (.leaf (some ((x3, x4.1, x5.1, bif chip == 2 then pMaj (decide (a ≥ 128)) false (decide (x3 ≥ 128)) else x6.1, x7.1, x8.1, bif chip == 2 then x7.2 else x8.2.1, f.2.2.2.2.2.2 || decide (a > 153))))) (.leaf none)
def pDaa (chip : Int) (a : Int) (f : TF) : QT3 := getO Zxu.dflt (ZGT chip a f).val
def ZKp (chip : Int) (a : Int) (f : TF) : Bool := okB (ZGT chip a f).val
def pDaaE : Entry := Zm ZDI Zxu (fun a => some (ZKp a.1 a.2.1 a.2.2)) (fun a => pDaa a.1 a.2.1 a.2.2)
theorem ZKo : Zb Tryz.prog 278 pDaaE :=
 pureP 32767 [(312, ZGs), (314, pOfE), (315, Zy6)] [] ZDI Zxu ⟨ZtQ, Zre, ZkV, trivial⟩ Tryz.func278 Tryz.call278 trivial (t := fun a => ZGT a.1 a.2.1 a.2.2) (fun a => by kernel_rfl)
abbrev ZIz : List Sh := [Sh.one R.bool]
abbrev ZIA : Rs := Rs.one (Sh.one (R.int u8))
def ZL9 (c : Bool) : RT (Int) :=
 .br (c) (.leaf (1)) (.leaf (0))
def pLow (c : Bool) : Int := (ZL9 c).val
def Zy7 : Entry := Zm ZIz ZIA (fun _ => none) (fun a => pLow a)
theorem ZuH : Zb Tryz.prog 320 Zy7 :=
 pureQ 7 [] [] ZIz ZIA trivial Tryz.func320 Tryz.call320 trivial (t := fun a => ZL9 a) (fun a => by kernel_rfl)
def ZeQ : Entry := .tree (ZI (envX Tryz.prog [] [] 7 8) Tryz.f317)
theorem Zhw : Zb Tryz.prog 317 ZeQ := Zab (P := Tryz.prog) (n := 7) (k := 8) (l := []) (ol := []) trivial Tryz.func317 rfl (by kernel_rfl) Tryz.call317 trivial
def ZeP : Entry := .tree (ZI (envX Tryz.prog [] [] 7 8) Tryz.f318)
theorem Zhv : Zb Tryz.prog 318 ZeP := Zab (P := Tryz.prog) (n := 7) (k := 8) (l := []) (ol := []) trivial Tryz.func318 rfl (by kernel_rfl) Tryz.call318 trivial
def ZeO : Entry := .tree (ZI (envX Tryz.prog [(320, Zy7)] [] 15 8) Tryz.f319)
theorem Zhu : Zb Tryz.prog 319 ZeO := Zab (P := Tryz.prog) (n := 15) (k := 8) (l := [(320, Zy7)]) (ol := []) ⟨ZuH, trivial⟩ Tryz.func319 rfl (by kernel_rfl) Tryz.call319 trivial
def ZeN : Entry := .tree (ZI (envX Tryz.prog [(320, Zy7)] [] 15 8) Tryz.f321)
theorem Zht : Zb Tryz.prog 321 ZeN := Zab (P := Tryz.prog) (n := 15) (k := 8) (l := [(320, Zy7)]) (ol := []) ⟨ZuH, trivial⟩ Tryz.func321 rfl (by kernel_rfl) Tryz.call321 trivial
abbrev ZCI : List Sh := [Sh.one (R.int i64), Sh.one (R.int u8), Sh.one R.bool]
abbrev Zw4 : Rs := Rs.tup [Sh.one (R.int u8), Sh.one R.bool]
def ZGw (op : Int) (a : Int) (c : Bool) : RT (Option (Int × Bool)) :=
 .br (andI i64 op 3 == 0 || (andI i64 op 3 == ↑(0 + 1) || (andI i64 op 3 == ↑(0 + 1 + 1) || andI i64 op 3 == ↑(0 + 1 + 1 + 1)))) (.leaf (some ((bif andI i64 op 3 == 0 then orI u8 (shlI u8 a 1) (shrI u8 a 7) else bif andI i64 op 3 == ↑(0 + 1) then orI u8 (shrI u8 a 1) (shlI u8 a 7) else bif andI i64 op 3 == ↑(0 + 1 + 1) then orI u8 (shlI u8 a 1) (pLow c) else orI u8 (shrI u8 a 1) (shlI u8 (pLow c) 7), bif andI i64 op 3 == 0 then decide (a ≥ 128) else bif andI i64 op 3 == ↑(0 + 1) then andI u8 a 1 == 1 else bif andI i64 op 3 == ↑(0 + 1 + 1) then decide (a ≥ 128) else andI u8 a 1 == 1)))) (.leaf none)
def pRot (op : Int) (a : Int) (c : Bool) : Int × Bool := getO Zw4.dflt (ZGw op a c).val
def ZJW (op : Int) (a : Int) (c : Bool) : Bool := okB (ZGw op a c).val
def pRotE : Entry := Zm ZCI Zw4 (fun a => some (ZJW a.1 a.2.1 a.2.2)) (fun a => pRot a.1 a.2.1 a.2.2)
theorem ZJV : Zb Tryz.prog 279 pRotE :=
 pureP 511 [(317, ZeQ), (318, ZeP), (319, ZeO), (321, ZeN)] [] ZCI Zw4 ⟨Zhw, Zhv, Zhu, Zht, trivial⟩ Tryz.func279 Tryz.call279 trivial (t := fun a => ZGw a.1 a.2.1 a.2.2) (fun a => by kernel_rfl)
abbrev Zu0 : List Sh := [Sh.one (R.int u16)]
abbrev Zu1 : Rs := Rs.tup [Sh.one (R.int u16), Sh.one R.bool]
def ZIE (v : Int) : RT (Int × Bool) :=
 .leaf ((orI u16 (shrI u16 v 1) (andI u16 v 32768), andI u16 v 1 == 1))
def ZMf (v : Int) : Int × Bool := (ZIE v).val
def ZMe : Entry := Zm Zu0 Zu1 (fun _ => none) (fun a => ZMf a)
theorem ZGW : Zb Tryz.prog 284 ZMe :=
 pureQ 15 [] [] Zu0 Zu1 trivial Tryz.func284 Tryz.call284 trivial (t := fun a => ZIE a) (fun a => by kernel_rfl)
abbrev ZtW : List Sh := [Sh.one (R.int u16), Sh.one R.bool]
abbrev ZtX : Rs := Rs.tup [Sh.one (R.int u16), Sh.one R.bool, Sh.one R.bool]
def ZCO (v : Int) (c : Bool) : RT (Int × Bool × Bool) :=
 .leaf ((orI u16 (shlI u16 v 1) (u16.wrap (pLow c)), decide (v ≥ 32768), andI u16 (xorI u16 (orI u16 (shlI u16 v 1) (u16.wrap (pLow c))) v) 32768 != 0))
def ZJ0 (v : Int) (c : Bool) : Int × Bool × Bool := (ZCO v c).val
def ZL4 : Entry := Zm ZtW ZtX (fun _ => none) (fun a => ZJ0 a.1 a.2)
theorem ZGA : Zb Tryz.prog 285 ZL4 :=
 pureQ 127 [(320, Zy7)] [] ZtW ZtX ⟨ZuH, trivial⟩ Tryz.func285 Tryz.call285 trivial (t := fun a => ZCO a.1 a.2) (fun a => by kernel_rfl)
abbrev ZCH : List Sh := [Sh.one R.bool, Sh.one (R.int i64)]
abbrev ZtU : Rs := Rs.one (Sh.one (R.int u8))
def Zw3 (b : Bool) (n : Int) : RT (Option (Int)) :=
 .br (!b || decide (0 ≤ n)) (.br (b) (.leaf (some (shlI u8 1 n))) (.leaf (some (0)))) (.leaf none)
def Zra (b : Bool) (n : Int) : Int := getO ZtU.dflt (Zw3 b n).val
def ZbZ (b : Bool) (n : Int) : Bool := okB (Zw3 b n).val
def ZIs : Entry := Zm ZCH ZtU (fun a => some (ZbZ a.1 a.2)) (fun a => Zra a.1 a.2)
theorem ZGv : Zb Tryz.prog 282 ZIs :=
 pureP 31 [] [] ZCH ZtU trivial Tryz.func282 Tryz.call282 trivial (t := fun a => Zw3 a.1 a.2) (fun a => by kernel_rfl)
abbrev ZCK : List Sh := [Sh.agg ZaT, Sh.agg (R.pair R.bool (R.pair R.bool rcF7))]
abbrev Zw5 : Rs := Rs.tup [Sh.one (R.int u8), Sh.agg ZaT]
def ZGy (c : TC) (l : QT1) : RT (Option (Int × TC)) :=
 let x1 := bif c.2.2.2.2.2.2.2.2.2.2.1 then c.2.2.2.2.2.2.2.2.2.2.2.1 else c.2.2.1
 .br (!ZbZ l.2.2.2.1 7 || (!ZbZ c.2.2.2.2.2.2.2.1 6 || (!ZbZ l.2.2.2.2.2.2.1 5 || (!ZbZ l.2.2.2.2.2.2.2.1 4 || ZbZ x1 3)))) (.br (!ZbZ l.2.2.2.1 7 || (!ZbZ c.2.2.2.2.2.2.2.1 6 || (!ZbZ l.2.2.2.2.2.2.1 5 || ZbZ l.2.2.2.2.2.2.2.1 4))) (.br (!ZbZ l.2.2.2.1 7 || (!ZbZ c.2.2.2.2.2.2.2.1 6 || ZbZ l.2.2.2.2.2.2.1 5)) (.br (!ZbZ l.2.2.2.1 7 || ZbZ c.2.2.2.2.2.2.2.1 6) (.br (ZbZ l.2.2.2.1 7) (.leaf (some ((orI u8 (orI u8 (orI u8 (orI u8 (orI u8 (Zra l.2.2.2.1 7) (Zra c.2.2.2.2.2.2.2.1 6)) (Zra l.2.2.2.2.2.2.1 5)) (Zra l.2.2.2.2.2.2.2.1 4)) (Zra x1 3)) (andI u8 c.2.2.2.2.2.1 7), c.1, c.2.1, c.2.2.1, c.2.2.2.1, c.2.2.2.2.1, c.2.2.2.2.2.1, c.2.2.2.2.2.2.1, c.2.2.2.2.2.2.2.1, c.2.2.2.2.2.2.2.2.1, c.2.2.2.2.2.2.2.2.2.1, false, false, c.2.2.2.2.2.2.2.2.2.2.2.2)))) (.leaf none)) (.leaf none)) (.leaf none)) (.leaf none)) (.leaf none)
def pRim (c : TC) (l : QT1) : Int × TC := getO Zw5.dflt (ZGy c l).val
def ZJY (c : TC) (l : QT1) : Bool := okB (ZGy c l).val
def pRimE : Entry := Zm ZCK Zw5 (fun a => some (ZJY a.1 a.2)) (fun a => pRim a.1 a.2)
theorem ZJX : Zb Tryz.prog 227 pRimE :=
 pureP 255 [(282, ZIs)] [] ZCK Zw5 ⟨ZGv, trivial⟩ Tryz.func227 Tryz.call227 trivial (t := fun a => ZGy a.1 a.2) (fun a => by kernel_rfl)
abbrev ZCA : List Sh := [Sh.agg ZaT, Sh.one (R.int u8)]
abbrev ZCB : Rs := Rs.one (Sh.agg ZaT)
def ZJT (c : TC) (a : Int) : RT TC :=
 .leaf ((c.1, c.2.1, c.2.2.1, c.2.2.2.1, c.2.2.2.2.1, bif andI u8 a 8 != 0 then andI u8 a 7 else c.2.2.2.2.2.1, c.2.2.2.2.2.2.1, !andI u8 a 16 != 0 && c.2.2.2.2.2.2.2.1, c.2.2.2.2.2.2.2.2.1, c.2.2.2.2.2.2.2.2.2.1, c.2.2.2.2.2.2.2.2.2.2.1, c.2.2.2.2.2.2.2.2.2.2.2.1, bif andI u8 a 64 != 0 then andI u8 a 128 != 0 else c.2.2.2.2.2.2.2.2.2.2.2.2))
def pSim (c : TC) (a : Int) : TC := (ZJT c a).val
def pSimE : Entry := Zm ZCA ZCB (fun _ => none) (fun a => pSim a.1 a.2)
theorem ZJS : Zb Tryz.prog 228 pSimE :=
 pureQ 31 [] [] ZCA ZCB trivial Tryz.func228 Tryz.call228 trivial (t := fun a => ZJT a.1 a.2) (fun a => by kernel_rfl)
abbrev ZoE : List Sh := [Sh.one (R.int i64), Sh.agg rcF7]
abbrev ZoF : Rs := Rs.one (Sh.one R.bool)
def ZuK (c : Int) (f : TF) : RT (Bool) :=
 .br (bif c == 0 then c == 0 else c == 1) (.leaf (f.2.1 == (c == 1))) (.br (bif c == 2 then c == 2 else c == 3) (.leaf (f.2.2.2.2.2.2 == (c == 3))) (.br (bif c == 4 then c == 4 else c == 5) (.leaf (f.2.2.2.2.1 == (c == 5))) (.br (bif c == 6 then c == 6 else c == 7) (.leaf (f.1 == (c == 7))) (.br (bif c == 8 then c == 8 else c == 9) (.leaf (f.2.2.1 == (c == 9))) (.br (c == 10) (.leaf f.2.2.2.2.2.1) (.leaf (c == 11)))))))
def ZDg (c : Int) (f : TF) : Bool := (ZuK c f).val
def ZKb : Entry := Zm ZoE ZoF (fun _ => none) (fun a => ZDg a.1 a.2)
theorem ZDf : Zb Tryz.prog 322 ZKb :=
 pureQ 70644700037215 [] [] ZoE ZoF trivial Tryz.func322 Tryz.call322 trivial (t := fun a => ZuK a.1 a.2) (fun a => by kernel_rfl)
abbrev Zj8 : List Sh := [Sh.one (R.int i64)]
abbrev Zj9 : Rs := Rs.one (Sh.one (R.int u16))
def Zog (s : Int) : RT (Int) :=
 .br (s == 1) (.leaf (36)) (.br (s == 2) (.leaf (60)) (.br (s == 3) (.leaf (52)) (.br (s == 4) (.leaf (44)) (.leaf (0)))))
def ZtP (s : Int) : Int := (Zog s).val
def ZGr : Entry := Zm Zj8 Zj9 (fun _ => none) (fun a => ZtP a)
theorem ZyS : Zb Tryz.prog 177 ZGr :=
 pureQ 1367 [] [] Zj8 Zj9 trivial Tryz.func177 Tryz.call177 trivial (t := fun a => Zog a) (fun a => by kernel_rfl)
abbrev Zxc : List Sh := [Sh.one (R.int u8)]
abbrev Zxd : Rs := Rs.tup [Sh.agg (R.pair (R.int i64) (R.pair (R.int i64) (R.pair (R.int i64) (R.pair (R.int i64) (R.pair (R.int i64) (R.pair (R.int i64) (R.pair (R.int i64) (R.int i64)))))))), Sh.one R.bool]
def ZC7 (op : Int) : RT (TI × Bool) :=
 .br (op == 8) (.leaf (((40, 1, 0, 0, 0, 0, 0, 0), true))) (.br (op == 16) (.leaf (((41, 1, 0, 0, 0, 0, 0, 0), true))) (.br (op == 24) (.leaf (((42, 1, 0, 0, 0, 0, 0, 0), true))) (.br (op == 32) (.leaf (((38, 1, 0, 0, 0, 0, 0, 0), true))) (.br (op == 40) (.leaf (((43, 2, 0, 0, 0, 0, 0, 0), true))) (.br (op == 48) (.leaf (((39, 1, 0, 0, 0, 0, 0, 0), true))) (.br (op == 56) (.leaf (((44, 2, 0, 0, 0, 0, 0, 0), true))) (.br (op == 203) (.leaf (((45, 1, 0, 0, 0, 0, 10, 0), true))) (.br (op == 217) (.leaf (((46, 1, 0, 0, 0, 0, 0, 0), true))) (.br (op == 221) (.leaf (((24, 3, 0, 0, 0, 0, 8, 0), true))) (.br (op == 237) (.leaf (((47, 1, 0, 0, 0, 0, 0, 0), true))) (.br (op == 253) (.leaf (((24, 3, 0, 0, 0, 0, 9, 0), true))) (.leaf (((0, 0, 0, 0, 0, 0, 0, 0), false))))))))))))))
def ZC9 (op : Int) : TI × Bool := (ZC7 op).val
def ZC8 : Entry := Zm Zxc Zxd (fun _ => none) (fun a => ZC9 a)
theorem ZC6 : Zb Tryz.prog 239 ZC8 :=
 pureQ 314146179375 [] [] Zxc Zxd trivial Tryz.func239 Tryz.call239 trivial (t := fun a => ZC7 a) (fun a => by kernel_rfl)
abbrev ZmM : List Sh := [Sh.one (R.int u8)]
abbrev ZmN : Rs := Rs.tup [Sh.agg (R.pair (R.int i64) (R.pair (R.int i64) (R.pair (R.int i64) (R.pair (R.int i64) (R.pair (R.int i64) (R.pair (R.int i64) (R.pair (R.int i64) (R.int i64)))))))), Sh.one R.bool]
def Zrg (op : Int) : RT (TI × Bool) :=
 .br (bif op == 0 then op == 0 else bif op == 8 then op == 8 else bif op == 16 then op == 16 else bif op == 24 then op == 24 else bif op == 32 then op == 32 else bif op == 40 then op == 40 else bif op == 48 then op == 48 else op == 56) (.leaf (((1, 1, 0, 0, 0, 0, 0, 0), true))) (.br (bif op == 195 then op == 195 else op == 203) (.leaf (((24, 3, 0, 0, 0, 0, 11, 0), true))) (.br (bif op == 201 then op == 201 else op == 217) (.leaf (((26, 1, 0, 0, 0, 0, 11, 0), true))) (.br (bif op == 205 then op == 205 else bif op == 221 then op == 221 else bif op == 237 then op == 237 else op == 253) (.leaf (((25, 3, 0, 0, 0, 0, 11, 0), true))) (.leaf (((0, 0, 0, 0, 0, 0, 0, 0), false))))))
def Zgr (op : Int) : TI × Bool := (Zrg op).val
def Zrh : Entry := Zm ZmM ZmN (fun _ => none) (fun a => Zgr a)
theorem ZuW : Zb Tryz.prog 240 Zrh :=
 pureQ 8945711 [] [] ZmM ZmN trivial Tryz.func240 Tryz.call240 trivial (t := fun a => Zrg a) (fun a => by kernel_rfl)
abbrev ZCX : List Sh := [Sh.one (R.int u8)]
abbrev Zt2 : Rs := Rs.one (Sh.agg (R.pair (R.int i64) (R.pair (R.int i64) (R.pair (R.int i64) (R.pair (R.int i64) (R.pair (R.int i64) (R.pair (R.int i64) (R.pair (R.int i64) (R.int i64)))))))))
def ZCY (op : Int) : RT (Option TI) :=
 let x1 : QT27 := (0, 0, i64.wrap (andI u8 (shrI u8 op 4) 3), 0, 0, 0)
 let x2 : QT22 := (1, x1)
 let x3 := decide (i64.wrap (andI u8 (shrI u8 op 3) 7) < 4) && andI u8 op 8 != 0
 let x4 := decide (0 ≤ i64.wrap (i64.wrap (andI u8 (shrI u8 op 3) 7) - 4) ∧ i64.wrap (i64.wrap (andI u8 (shrI u8 op 3) 7) - 4) < 4)
 let x5 := i64.wrap (i64.wrap (andI u8 (shrI u8 op 3) 7) - 4) == 0
 let x6 := i64.wrap (i64.wrap (andI u8 (shrI u8 op 3) 7) - 4) == ↑(0 + 1)
 let x7 := i64.wrap (i64.wrap (andI u8 (shrI u8 op 3) 7) - 4) == ↑(0 + 1 + 1)
 let x8 : QT27 := (i64.wrap (andI u8 (shrI u8 op 3) 7), 0, 0, 0, 0, 0)
 let x9 : QT22 := (1, x8)
 .br (andI u8 op 7 == 1) (.br (andI u8 op 8 != 0) (.leaf (some ((18, x2)))) (.leaf (some ((4, 3, x1))))) (.br (!andI u8 op 7 == 2 || (x3 || (decide (i64.wrap (andI u8 (shrI u8 op 3) 7) < 4) || x4))) (.br (andI u8 op 7 == 2) (.br (x3) (.leaf (some ((9, x2)))) (.br (decide (i64.wrap (andI u8 (shrI u8 op 3) 7) < 4)) (.leaf (some ((10, x2)))) (.leaf (some ((bif x5 then 8 else bif x6 then 7 else bif x7 then 6 else 5, 3, 0, 0, 0, 0, 0, 0)))))) (.br (andI u8 op 7 == 3) (.br (andI u8 op 8 != 0) (.leaf (some ((17, x2)))) (.leaf (some ((16, x2))))) (.br (andI u8 op 7 == 4) (.leaf (some ((14, x9)))) (.br (andI u8 op 7 == 5) (.leaf (some ((15, x9)))) (.br (andI u8 op 7 == 6) (.leaf (some ((3, 2, x8)))) (.br (decide (i64.wrap (andI u8 (shrI u8 op 3) 7) < 4)) (.leaf (some ((23, 1, 0, 0, 0, i64.wrap (andI u8 (shrI u8 op 3) 7), 0, 0)))) (.br (x4) (.leaf (some ((bif x5 then 19 else bif x6 then 20 else bif x7 then 21 else 22, 1, 0, 0, 0, 0, 0, 0)))) (.leaf none)))))))) (.leaf none))
def ZJ5 (op : Int) : QT5 := getO Zt2.dflt (ZCY op).val
def ZCZ (op : Int) : Bool := okB (ZCY op).val
def ZIw : Entry := Zm ZCX Zt2 (fun a => some (ZCZ a)) (fun a => ZJ5 a)
theorem ZGG : Zb Tryz.prog 241 ZIw :=
 pureP 614758941389750335 [] [] ZCX Zt2 trivial Tryz.func241 Tryz.call241 trivial (t := fun a => ZCY a) (fun a => by kernel_rfl)
abbrev Zw9 : List Sh := [Sh.one (R.int u8)]
abbrev Zor : Rs := Rs.one (Sh.agg (R.pair (R.int i64) (R.pair (R.int i64) (R.pair (R.int i64) (R.pair (R.int i64) (R.pair (R.int i64) (R.pair (R.int i64) (R.pair (R.int i64) (R.int i64)))))))))
def Zt3 (op : Int) : RT (Option TI) :=
 let x1 : QT27 := (0, 0, 0, 0, i64.wrap (andI u8 (shrI u8 op 3) 7), 0)
 let x2 : QT22 := (1, 0, 0, i64.wrap (andI u8 (shrI u8 op 4) 3), 0, 0, 0)
 let x3 := andI u8 op 7 == 2 || (!andI u8 op 7 == 3 || (!decide (i64.wrap (andI u8 (shrI u8 op 3) 7) < 4) || decide (0 ≤ i64.wrap (i64.wrap (andI u8 (shrI u8 op 3) 7) - 2) ∧ i64.wrap (i64.wrap (andI u8 (shrI u8 op 3) 7) - 2) < 2)))
 let x4 : QT22 := (3, x1)
 .br (andI u8 op 7 == 0) (.leaf (some ((26, 1, x1)))) (.br (andI u8 op 7 == 1) (.br (!andI u8 op 8 != 0) (.leaf (some ((31, x2)))) (.br (i64.wrap (andI u8 (shrI u8 op 3) 7) == 5) (.leaf (some ((28, 1, 0, 0, 0, 0, 0, 0)))) (.leaf (some ((29, 1, 0, 0, 0, 0, 0, 0)))))) (.br (!x3 || (andI u8 op 7 == 2 || (!andI u8 op 7 == 3 || (decide (i64.wrap (andI u8 (shrI u8 op 3) 7) < 4) || decide (0 ≤ i64.wrap (i64.wrap (andI u8 (shrI u8 op 3) 7) - 4) ∧ i64.wrap (i64.wrap (andI u8 (shrI u8 op 3) 7) - 4) < 4))))) (.br (x3) (.br (andI u8 op 7 == 2) (.leaf (some ((24, x4)))) (.br (andI u8 op 7 == 3) (.br (decide (i64.wrap (andI u8 (shrI u8 op 3) 7) < 4)) (.leaf (some ((bif i64.wrap (i64.wrap (andI u8 (shrI u8 op 3) 7) - 2) == 0 then 34 else 33, 2, 0, 0, 0, 0, 0, 0)))) (.leaf (some ((bif i64.wrap (i64.wrap (andI u8 (shrI u8 op 3) 7) - 4) == 0 then 32 else bif i64.wrap (i64.wrap (andI u8 (shrI u8 op 3) 7) - 4) == ↑(0 + 1) then 11 else bif i64.wrap (i64.wrap (andI u8 (shrI u8 op 3) 7) - 4) == ↑(0 + 1 + 1) then 36 else 35, 1, 0, 0, 0, 0, 0, 0))))) (.br (andI u8 op 7 == 4) (.leaf (some ((25, x4)))) (.br (andI u8 op 7 == 5) (.leaf (some ((30, x2)))) (.br (andI u8 op 7 == 6) (.leaf (some ((13, 2, 0, 0, 0, i64.wrap (andI u8 (shrI u8 op 3) 7), 0, 0)))) (.leaf (some ((27, 1, 0, 0, 0, 0, 0, i64.wrap (andI u8 (shrI u8 op 3) 7)))))))))) (.leaf none)) (.leaf none)))
def ZC2 (op : Int) : QT5 := getO Zor.dflt (Zt3 op).val
def Zt4 (op : Int) : Bool := okB (Zt3 op).val
def ZC1 : Entry := Zm Zw9 Zor (fun a => some (Zt4 a)) (fun a => ZC2 a)
theorem ZC0 : Zb Tryz.prog 242 ZC1 :=
 pureP 614741495173873727 [] [] Zw9 Zor trivial Tryz.func242 Tryz.call242 trivial (t := fun a => Zt3 a) (fun a => by kernel_rfl)
abbrev Zgs : List Sh := [Sh.one (R.int i64), Sh.one (R.int u8)]
abbrev Zgt : Rs := Rs.one (Sh.agg (R.pair (R.int i64) (R.pair (R.int i64) (R.pair (R.int i64) (R.pair (R.int i64) (R.pair (R.int i64) (R.pair (R.int i64) (R.pair (R.int i64) (R.int i64)))))))))
def ZdX (chip : Int) (op : Int) : RT (Option TI) :=
 let x1 : QT5 := (37, 1, 0, 0, 0, 0, 0, 0)
 let x2 : QT5 := (2, 1, i64.wrap (andI u8 (shrI u8 op 3) 7), i64.wrap (andI u8 op 7), 0, 0, 0, 0)
 let x3 : QT5 := (12, 1, 0, i64.wrap (andI u8 op 7), 0, i64.wrap (andI u8 (shrI u8 op 3) 7), 0, 0)
 .br (chip == 2) (.br (ZC9 op).2 (.leaf (some (ZC9 op).1)) (.br (Zgr op).2 (.leaf (some (Zgr op).1)) (.br (!shrI u8 op 6 == 0 || ZCZ op) (.br (shrI u8 op 6 == 0) (.leaf (some (ZJ5 op))) (.br (shrI u8 op 6 == 1) (.br (op == 118) (.leaf (some (x1))) (.leaf (some (x2)))) (.br (shrI u8 op 6 == 2) (.leaf (some (x3))) (.br (Zt4 op) (.leaf (some (ZC2 op))) (.leaf none))))) (.leaf none)))) (.br (Zgr op).2 (.leaf (some (Zgr op).1)) (.br (!shrI u8 op 6 == 0 || ZCZ op) (.br (shrI u8 op 6 == 0) (.leaf (some (ZJ5 op))) (.br (shrI u8 op 6 == 1) (.br (op == 118) (.leaf (some (x1))) (.leaf (some (x2)))) (.br (shrI u8 op 6 == 2) (.leaf (some (x3))) (.br (Zt4 op) (.leaf (some (ZC2 op))) (.leaf none))))) (.leaf none)))
def ZkZ (chip : Int) (op : Int) : QT5 := getO Zgt.dflt (ZdX chip op).val
def ZiF (chip : Int) (op : Int) : Bool := okB (ZdX chip op).val
def ZGP : Entry := Zm Zgs Zgt (fun a => some (ZiF a.1 a.2)) (fun a => ZkZ a.1 a.2)
theorem ZzM : Zb Tryz.prog 182 ZGP :=
 pureP 17594467746303 [(239, ZC8), (240, Zrh), (241, ZIw), (242, ZC1)] [] Zgs Zgt ⟨ZC6, ZuW, ZGG, ZC0, trivial⟩ Tryz.func182 Tryz.call182 trivial (t := fun a => ZdX a.1 a.2) (fun a => by kernel_rfl)
abbrev ZLG : List Sh := [Sh.one (R.int i64)]
abbrev ZLH : Rs := Rs.one (Sh.one R.bool)
def rOnT (chip : Int) : RT (Bool) :=
 .leaf (chip == 2)
def rOn (chip : Int) : Bool := (rOnT chip).val
def rOnE : Entry := Zm ZLG ZLH (fun _ => none) (fun a => rOn a)
theorem ZqM : Zb Tryz.prog 146 rOnE :=
 pureQ 7 [] [] ZLG ZLH trivial Tryz.func146 Tryz.call146 trivial (t := fun a => rOnT a) (fun a => by kernel_rfl)
abbrev ZqI : List Sh := [Sh.one (R.int u8)]
abbrev ZqJ : Rs := Rs.one (Sh.one R.bool)
def Zww (b : Int) : RT (Bool) :=
 let x1 := i64.wrap (i64.wrap (i64.wrap (i64.wrap (0 + 1) + 1) + 1) + 1)
 let x2 := i64.wrap (x1 + 1)
 let x3 := i64.wrap (x2 + 1)
 let x4 := bif andI u8 (shrI u8 b (i64.wrap (0 + 1))) 1 == 1 then !!andI u8 (shrI u8 b 0) 1 == 1 else !andI u8 (shrI u8 b 0) 1 == 1
 let x5 := bif andI u8 (shrI u8 b (i64.wrap (i64.wrap (0 + 1) + 1))) 1 == 1 then !x4 else x4
 let x6 := bif andI u8 (shrI u8 b (i64.wrap (i64.wrap (i64.wrap (0 + 1) + 1) + 1))) 1 == 1 then !x5 else x5
 let x7 := bif andI u8 (shrI u8 b x1) 1 == 1 then !x6 else x6
 let x8 := bif andI u8 (shrI u8 b x2) 1 == 1 then !x7 else x7
 let x9 := bif andI u8 (shrI u8 b x3) 1 == 1 then !x8 else x8
 .leaf (bif andI u8 (shrI u8 b (i64.wrap (x3 + 1))) 1 == 1 then !x9 else x9)
def Zje (b : Int) : Bool := (Zww b).val
def Zwx : Entry := Zm ZqI ZqJ (fun _ => none) (fun a => Zje a)
theorem Zyq : Zb Tryz.prog 266 Zwx :=
 ZwX (P := Tryz.prog) (n := 31) (k := 10) (l := []) (ol := []) trivial Tryz.func266 rfl (by kernel_rfl) Tryz.call266 trivial (ts := ZqI) (rs := ZqJ) (t := fun a => Zww a) (fun a => by kernel_rfl)
abbrev ZH8 : List Sh := [Sh.one R.bool, Sh.one R.bool, Sh.one R.bool]
abbrev ZH9 : Rs := Rs.one (Sh.one R.bool)
def ZLL (a : Bool) (b : Bool) (c : Bool) : RT (Bool) :=
 .leaf (bif a then b || bif a then c || b && c else b && c else bif a then c || b && c else b && c)
def rMaj (a : Bool) (b : Bool) (c : Bool) : Bool := (ZLL a b c).val
def ZJD : Entry := Zm ZH8 ZH9 (fun _ => none) (fun a => rMaj a.1 a.2.1 a.2.2)
theorem ZBM : Zb Tryz.prog 264 ZJD :=
 pureQ 127 [] [] ZH8 ZH9 trivial Tryz.func264 Tryz.call264 trivial (t := fun a => ZLL a.1 a.2.1 a.2.2) (fun a => by kernel_rfl)
abbrev ZH2 : List Sh := [Sh.one R.bool]
abbrev ZH3 : Rs := Rs.one (Sh.one (R.int i64))
def ZLF (b : Bool) : RT (Int) :=
 .br (b) (.leaf (1)) (.leaf (0))
def rOne (b : Bool) : Int := (ZLF b).val
def ZJC : Entry := Zm ZH2 ZH3 (fun _ => none) (fun a => rOne a)
theorem ZBD : Zb Tryz.prog 267 ZJC :=
 pureQ 7 [] [] ZH2 ZH3 trivial Tryz.func267 Tryz.call267 trivial (t := fun a => ZLF a) (fun a => by kernel_rfl)
abbrev ZqE : List Sh := [Sh.one (R.int u8)]
abbrev ZqF : Rs := Rs.one (Sh.one (R.int i64))
def Ziu (n : Int) : RT (Int) :=
 .leaf (i64.wrap (IntKind.i8.wrap n))
def Zc2 (n : Int) : Int := (Ziu n).val
def ZnE : Entry := Zm ZqE ZqF (fun _ => none) (fun a => Zc2 a)
theorem Zmu : Zb Tryz.prog 309 ZnE :=
 pureQ 7 [] [] ZqE ZqF trivial Tryz.func309 Tryz.call309 trivial (t := fun a => Ziu a) (fun a => by kernel_rfl)
abbrev ZHY : List Sh := [Sh.one (R.int u8), Sh.one (R.int u8), Sh.one R.bool]
abbrev ZHZ : Rs := Rs.tup [Sh.one (R.int u8), Sh.one R.bool, Sh.one R.bool, Sh.one R.bool]
def ZFS (a : Int) (b : Int) (c : Bool) : RT (QT20) :=
 let x1 := decide (i64.wrap (i64.wrap (Zc2 a + Zc2 b) + rOne c) < -128)
 let x2 := i64.wrap (i64.wrap (i64.wrap a + i64.wrap b) + rOne c)
 let x3 := u8.wrap x2
 let x4 := decide (x2 > 255)
 let x5 := decide (i64.wrap (i64.wrap (i64.wrap (andI u8 a 15) + i64.wrap (andI u8 b 15)) + rOne c) > 15)
 .leaf ((bif x1 then x3 else x3, bif x1 then x4 else x4, bif x1 then x5 else x5, x1 || decide (i64.wrap (i64.wrap (Zc2 a + Zc2 b) + rOne c) > 127)))
def rSum (a : Int) (b : Int) (c : Bool) : QT20 := (ZFS a b c).val
def ZLy : Entry := Zm ZHY ZHZ (fun _ => none) (fun a => rSum a.1 a.2.1 a.2.2)
theorem ZJx : Zb Tryz.prog 260 ZLy :=
 pureQ 8191 [(267, ZJC), (309, ZnE)] [] ZHY ZHZ ⟨ZBD, Zmu, trivial⟩ Tryz.func260 Tryz.call260 trivial (t := fun a => ZFS a.1 a.2.1 a.2.2) (fun a => by kernel_rfl)
abbrev ZB2 : List Sh := [Sh.one (R.int u8), Sh.one (R.int u8), Sh.one R.bool]
abbrev ZB3 : Rs := Rs.tup [Sh.one (R.int u8), Sh.one R.bool, Sh.one R.bool, Sh.one R.bool]
def ZwP (a : Int) (b : Int) (c : Bool) : RT (QT20) :=
 let x1 := decide (i64.wrap (i64.wrap (Zc2 a - Zc2 b) - rOne c) < -128)
 let x2 := i64.wrap (i64.wrap (i64.wrap a - i64.wrap b) - rOne c)
 let x3 := u8.wrap x2
 let x4 := decide (x2 < 0)
 let x5 := decide (i64.wrap (i64.wrap (i64.wrap (i64.wrap (andI u8 a 15) + i64.wrap (u8.wrap (15 - andI u8 b 15))) + 1) - rOne c) > 15)
 .leaf ((bif x1 then x3 else x3, bif x1 then x4 else x4, bif x1 then x5 else x5, x1 || decide (i64.wrap (i64.wrap (Zc2 a - Zc2 b) - rOne c) > 127)))
def ZbM (a : Int) (b : Int) (c : Bool) : QT20 := (ZwP a b c).val
def ZIe : Entry := Zm ZB2 ZB3 (fun _ => none) (fun a => ZbM a.1 a.2.1 a.2.2)
theorem ZGd : Zb Tryz.prog 261 ZIe :=
 pureQ 8191 [(267, ZJC), (309, ZnE)] [] ZB2 ZB3 ⟨ZBD, Zmu, trivial⟩ Tryz.func261 Tryz.call261 trivial (t := fun a => ZwP a.1 a.2.1 a.2.2) (fun a => by kernel_rfl)
abbrev ZBS : List Sh := [Sh.one (R.int u8), Sh.one (R.int u8)]
abbrev ZBT : Rs := Rs.one (Sh.one (R.int u16))
def ZIa (h : Int) (l : Int) : RT (Int) :=
 .leaf (orI u16 (shlI u16 (u16.wrap h) 8) (u16.wrap l))
def ZdC (h : Int) (l : Int) : Int := (ZIa h l).val
def Zmy : Entry := Zm ZBS ZBT (fun _ => none) (fun a => ZdC a.1 a.2)
theorem Zix : Zb Tryz.prog 172 Zmy :=
 pureQ 31 [] [] ZBS ZBT trivial Tryz.func172 Tryz.call172 trivial (t := fun a => ZIa a.1 a.2) (fun a => by kernel_rfl)
abbrev ZIi : List Sh := [Sh.one R.bool, Sh.one (R.int i64)]
abbrev ZB5 : Rs := Rs.one (Sh.one (R.int u8))
def ZGg (b : Bool) (n : Int) : RT (Option (Int)) :=
 .br (!b || decide (0 ≤ n)) (.br (b) (.leaf (some (shlI u8 1 n))) (.leaf (some (0)))) (.leaf none)
def rBit (b : Bool) (n : Int) : Int := getO ZB5.dflt (ZGg b n).val
def ZcL (b : Bool) (n : Int) : Bool := okB (ZGg b n).val
def ZLW : Entry := Zm ZIi ZB5 (fun a => some (ZcL a.1 a.2)) (fun a => rBit a.1 a.2)
theorem ZJK : Zb Tryz.prog 265 ZLW :=
 pureP 31 [] [] ZIi ZB5 trivial Tryz.func265 Tryz.call265 trivial (t := fun a => ZGg a.1 a.2) (fun a => by kernel_rfl)
abbrev ZBw : List Sh := [Sh.one (R.int i64), Sh.agg rcF7]
abbrev ZsQ : Rs := Rs.one (Sh.one (R.int u8))
def ZqL (chip : Int) (f : TF) : RT (Option (Int)) :=
 let x1 := orI u8 (orI u8 (orI u8 (orI u8 (rBit f.1 7) (rBit f.2.1 6)) (rBit f.2.2.2.1 4)) (rBit f.2.2.2.2.1 2)) (rBit f.2.2.2.2.2.2 0)
 .br (!ZcL f.1 7 || (!ZcL f.2.1 6 || (!ZcL f.2.2.2.1 4 || (!ZcL f.2.2.2.2.1 2 || ZcL f.2.2.2.2.2.2 0)))) (.br (!ZcL f.1 7 || (!ZcL f.2.1 6 || (!ZcL f.2.2.2.1 4 || ZcL f.2.2.2.2.1 2))) (.br (!ZcL f.1 7 || (!ZcL f.2.1 6 || ZcL f.2.2.2.1 4)) (.br (!ZcL f.1 7 || ZcL f.2.1 6) (.br (ZcL f.1 7) (.br (!rOn chip || (!ZcL f.2.2.1 5 || ZcL f.2.2.2.2.2.1 1)) (.br (!rOn chip || ZcL f.2.2.1 5) (.br (rOn chip) (.leaf (some (orI u8 (orI u8 x1 (rBit f.2.2.1 5)) (rBit f.2.2.2.2.2.1 1)))) (.leaf (some (orI u8 x1 2)))) (.leaf none)) (.leaf none)) (.leaf none)) (.leaf none)) (.leaf none)) (.leaf none)) (.leaf none)
def ZFZ (chip : Int) (f : TF) : Int := getO ZsQ.dflt (ZqL chip f).val
def Zwy (chip : Int) (f : TF) : Bool := okB (ZqL chip f).val
def ZH1 : Entry := Zm ZBw ZsQ (fun a => some (Zwy a.1 a.2)) (fun a => ZFZ a.1 a.2)
theorem ZFY : Zb Tryz.prog 221 ZH1 :=
 pureP 63 [(146, rOnE), (265, ZLW)] [] ZBw ZsQ ⟨ZqM, ZJK, trivial⟩ Tryz.func221 Tryz.call221 trivial (t := fun a => ZqL a.1 a.2) (fun a => by kernel_rfl)
def Zwl (chip : Int) (b : Int) : RT TF :=
 .leaf ((andI u8 b 128 != 0, andI u8 b 64 != 0, rOn chip && andI u8 b 32 != 0, andI u8 b 16 != 0, andI u8 b 4 != 0, rOn chip && andI u8 b 2 != 0, andI u8 b 1 != 0))
def ZsJ (chip : Int) (b : Int) : TF := (Zwl chip b).val
abbrev ZLJ : List Sh := [Sh.one (R.int u8)]
abbrev ZLK : Rs := Rs.one (Sh.agg rcF7)
def rOfT (r : Int) : RT TF :=
 .leaf ((decide (r ≥ 128), r == 0, false, false, Zje r, false, false))
def rOf (r : Int) : TF := (rOfT r).val
def rOfE : Entry := Zm ZLJ ZLK (fun _ => none) (fun a => rOf a)
theorem ZH7 : Zb Tryz.prog 262 rOfE :=
 pureQ 7 [(266, Zwx)] [] ZLJ ZLK ⟨Zyq, trivial⟩ Tryz.func262 Tryz.call262 trivial (t := fun a => rOfT a) (fun a => by kernel_rfl)
abbrev ZBA : List Sh := [Sh.one (R.int i64), Sh.agg rcF7, Sh.one R.bool, Sh.one R.bool]
abbrev ZBB : Rs := Rs.one (Sh.agg rcF7)
def Zmw (chip : Int) (f : TF) (k : Bool) (v : Bool) : RT TF :=
 .leaf ((f.1, f.2.1, rOn chip && bif rOn chip then k else k, f.2.2.2.1, f.2.2.2.2.1, bif rOn chip then rOn chip && v else rOn chip && v, f.2.2.2.2.2.2))
def Zl3 (chip : Int) (f : TF) (k : Bool) (v : Bool) : TF := (Zmw chip f k v).val
def ZBC : Entry := Zm ZBA ZBB (fun _ => none) (fun a => Zl3 a.1 a.2.1 a.2.2.1 a.2.2.2)
theorem ZwA : Zb Tryz.prog 263 ZBC :=
 pureQ 511 [(146, rOnE)] [] ZBA ZBB ⟨ZqM, trivial⟩ Tryz.func263 Tryz.call263 trivial (t := fun a => Zmw a.1 a.2.1 a.2.2.1 a.2.2.2) (fun a => by kernel_rfl)
abbrev ZBX : List Sh := [Sh.agg Zf6, Sh.one (R.int i64)]
abbrev ZwL : Rs := Rs.one (Sh.one (R.int u8))
def ZBY (r : TR) (n : Int) : RT (Option (Int)) :=
 .br (decide (0 ≤ andI i64 n 7 ∧ andI i64 n 7 < 8)) (.leaf (some (bif andI i64 n 7 == 0 then r.2.1 else bif andI i64 n 7 == ↑(0 + 1) then r.2.2.1 else bif andI i64 n 7 == ↑(0 + 1 + 1) then r.2.2.2.1 else bif andI i64 n 7 == ↑(0 + 1 + 1 + 1) then r.2.2.2.2.1 else bif andI i64 n 7 == ↑(0 + 1 + 1 + 1 + 1) then r.2.2.2.2.2.1 else bif andI i64 n 7 == ↑(0 + 1 + 1 + 1 + 1 + 1) then r.2.2.2.2.2.2.1 else bif andI i64 n 7 == ↑(0 + 1 + 1 + 1 + 1 + 1 + 1) then 0 else r.1))) (.leaf none)
def rGet (r : TR) (n : Int) : Int := getO ZwL.dflt (ZBY r n).val
def ZyG (r : TR) (n : Int) : Bool := okB (ZBY r n).val
def ZLQ : Entry := Zm ZBX ZwL (fun a => some (ZyG a.1 a.2)) (fun a => rGet a.1 a.2)
theorem ZBW : Zb Tryz.prog 163 ZLQ :=
 pureP 31 [] [] ZBX ZwL trivial Tryz.func163 Tryz.call163 trivial (t := fun a => ZBY a.1 a.2) (fun a => by kernel_rfl)
def ZLz (r : TR) (n : Int) (v : Int) : RT TR :=
 .leaf ((bif andI i64 n 7 == 0 then r.1 else bif andI i64 n 7 == 1 then r.1 else bif andI i64 n 7 == 2 then r.1 else bif andI i64 n 7 == 3 then r.1 else bif andI i64 n 7 == 4 then r.1 else bif andI i64 n 7 == 5 then r.1 else bif andI i64 n 7 == 7 then v else r.1, bif andI i64 n 7 == 0 then v else r.2.1, bif andI i64 n 7 == 0 then r.2.2.1 else bif andI i64 n 7 == 1 then v else r.2.2.1, bif andI i64 n 7 == 0 then r.2.2.2.1 else bif andI i64 n 7 == 1 then r.2.2.2.1 else bif andI i64 n 7 == 2 then v else r.2.2.2.1, bif andI i64 n 7 == 0 then r.2.2.2.2.1 else bif andI i64 n 7 == 1 then r.2.2.2.2.1 else bif andI i64 n 7 == 2 then r.2.2.2.2.1 else bif andI i64 n 7 == 3 then v else r.2.2.2.2.1, bif andI i64 n 7 == 0 then r.2.2.2.2.2.1 else bif andI i64 n 7 == 1 then r.2.2.2.2.2.1 else bif andI i64 n 7 == 2 then r.2.2.2.2.2.1 else bif andI i64 n 7 == 3 then r.2.2.2.2.2.1 else bif andI i64 n 7 == 4 then v else r.2.2.2.2.2.1, bif andI i64 n 7 == 0 then r.2.2.2.2.2.2.1 else bif andI i64 n 7 == 1 then r.2.2.2.2.2.2.1 else bif andI i64 n 7 == 2 then r.2.2.2.2.2.2.1 else bif andI i64 n 7 == 3 then r.2.2.2.2.2.2.1 else bif andI i64 n 7 == 4 then r.2.2.2.2.2.2.1 else bif andI i64 n 7 == 5 then v else r.2.2.2.2.2.2.1, r.2.2.2.2.2.2.2))
def rSet (r : TR) (n : Int) (v : Int) : TR := (ZLz r n v).val
abbrev ZsO : List Sh := [Sh.agg Zf6, Sh.one (R.int i64)]
abbrev ZnH : Rs := Rs.one (Sh.one (R.int u16))
def ZqK (r : TR) (n : Int) : RT (Option (Int)) :=
 .br (andI i64 n 3 == 3) (.leaf (some r.2.2.2.2.2.2.2.2.1)) (.br (!ZyG r (i64.wrap (2 * andI i64 n 3)) || ZyG r (i64.wrap (i64.wrap (2 * andI i64 n 3) + 1))) (.br (ZyG r (i64.wrap (2 * andI i64 n 3))) (.leaf (some (ZdC (rGet r (i64.wrap (2 * andI i64 n 3))) (rGet r (i64.wrap (i64.wrap (2 * andI i64 n 3) + 1)))))) (.leaf none)) (.leaf none))
def ZaW (r : TR) (n : Int) : Int := getO ZnH.dflt (ZqK r n).val
def ZBu (r : TR) (n : Int) : Bool := okB (ZqK r n).val
def ZLE : Entry := Zm ZsO ZnH (fun a => some (ZBu a.1 a.2)) (fun a => ZaW a.1 a.2)
theorem ZFX : Zb Tryz.prog 158 ZLE :=
 pureP 31 [(163, ZLQ), (172, Zmy)] [] ZsO ZnH ⟨ZBW, Zix, trivial⟩ Tryz.func158 Tryz.call158 trivial (t := fun a => ZqK a.1 a.2) (fun a => by kernel_rfl)
def ZqG (r : TR) (n : Int) (v : Int) : RT TR :=
 .br (andI i64 n 3 == 3) (.leaf ((r.1, r.2.1, r.2.2.1, r.2.2.2.1, r.2.2.2.2.1, r.2.2.2.2.2.1, r.2.2.2.2.2.2.1, r.2.2.2.2.2.2.2.1, v, r.2.2.2.2.2.2.2.2.2))) (.leaf (rSet (rSet r (i64.wrap (2 * andI i64 n 3)) (u8.wrap (shrI u16 v 8))) (i64.wrap (i64.wrap (2 * andI i64 n 3) + 1)) (u8.wrap v)))
def ZS (r : TR) (n : Int) (v : Int) : TR := (ZqG r n v).val
abbrev ZBx : List Sh := [Sh.one (R.int i64), Sh.agg Zf6]
abbrev Zwz : Rs := Rs.one (Sh.one (R.int u16))
def ZBy (chip : Int) (r : TR) : RT (Option (Int)) :=
 .br (Zwy chip r.2.2.2.2.2.2.2.1) (.leaf (some (ZdC r.1 (ZFZ chip r.2.2.2.2.2.2.2.1)))) (.leaf none)
def rPSW (chip : Int) (r : TR) : Int := getO Zwz.dflt (ZBy chip r).val
def ZJB (chip : Int) (r : TR) : Bool := okB (ZBy chip r).val
def rPSWE : Entry := Zm ZBx Zwz (fun a => some (ZJB a.1 a.2)) (fun a => rPSW a.1 a.2)
theorem ZJA : Zb Tryz.prog 171 rPSWE :=
 pureP 31 [(172, Zmy), (221, ZH1)] [] ZBx Zwz ⟨Zix, ZFY, trivial⟩ Tryz.func171 Tryz.call171 trivial (t := fun a => ZBy a.1 a.2) (fun a => by kernel_rfl)
def Zwm (chip : Int) (r : TR) (v : Int) : RT TR :=
 .leaf ((u8.wrap (shrI u16 v 8), r.2.1, r.2.2.1, r.2.2.2.1, r.2.2.2.2.1, r.2.2.2.2.2.1, r.2.2.2.2.2.2.1, ZsJ chip (u8.wrap v), r.2.2.2.2.2.2.2.2))
def Zjd (chip : Int) (r : TR) (v : Int) : TR := (Zwm chip r v).val
def rDoT (chip : Int) (op : Int) (a : Int) (b : Int) (f : TF) : RT (QT3) :=
 let x1 := bif andI i64 op 7 == 0 then andI i64 op 7 == 0 else andI i64 op 7 == 1
 let x2 := bif andI i64 op 7 == 2 then andI i64 op 7 == 2 else bif andI i64 op 7 == 3 then andI i64 op 7 == 3 else andI i64 op 7 == 7
 let x3 : Int := bif x1 then bif andI i64 op 7 == 1 then (rSum a b f.2.2.2.2.2.2).1 else (rSum a b false).1 else bif x2 then bif andI i64 op 7 == 3 then (ZbM a b f.2.2.2.2.2.2).1 else (ZbM a b false).1 else bif andI i64 op 7 == 4 then bif rOn chip then andI u8 a b else andI u8 a b else bif andI i64 op 7 == 5 then xorI u8 a b else bif andI i64 op 7 == 6 then orI u8 a b else 0
 let x4 := rOf x3
 let x5 := x4.2
 let x6 := x5.2
 let x7 := x6.2.2
 let x8 := Zl3 chip (x4.1, x5.1, x6.1, bif x1 then bif andI i64 op 7 == 1 then (rSum a b f.2.2.2.2.2.2).2.2.1 else (rSum a b false).2.2.1 else bif x2 then bif andI i64 op 7 == 3 then (ZbM a b f.2.2.2.2.2.2).2.2.1 else (ZbM a b false).2.2.1 else andI i64 op 7 == 4 && (rOn chip || andI u8 (orI u8 a b) 8 != 0), x7.1, x7.2.1, bif x1 then bif andI i64 op 7 == 1 then (rSum a b f.2.2.2.2.2.2).2.1 else (rSum a b false).2.1 else x2 && bif andI i64 op 7 == 3 then (ZbM a b f.2.2.2.2.2.2).2.1 else (ZbM a b false).2.1) (rMaj (decide (a ≥ 128)) (bif x1 then decide (b ≥ 128) else bif x2 then !decide (b ≥ 128) else decide (b ≥ 128)) (decide (x3 ≥ 128))) (bif x1 then bif andI i64 op 7 == 1 then (rSum a b f.2.2.2.2.2.2).2.2.2 else (rSum a b false).2.2.2 else x2 && bif andI i64 op 7 == 3 then (ZbM a b f.2.2.2.2.2.2).2.2.2 else (ZbM a b false).2.2.2)
 .br (andI i64 op 7 == 7) (.leaf ((a, x8))) (.leaf ((x3, x8)))
def rDo (chip : Int) (op : Int) (a : Int) (b : Int) (f : TF) : QT3 := (rDoT chip op a b f).val
abbrev ZIb : List Sh := [Sh.one (R.int i64), Sh.one (R.int u8), Sh.agg rcF7]
abbrev ZIc : Rs := Rs.tup [Sh.one (R.int u8), Sh.agg rcF7]
def ZJG (chip : Int) (v : Int) (f : TF) : RT (QT3) :=
 .leaf (((rSum v 1 false).1, Zl3 chip ((rOf (rSum v 1 false).1).1, (rOf (rSum v 1 false).1).2.1, (rOf (rSum v 1 false).1).2.2.1, (rSum v 1 false).2.2.1, (rOf (rSum v 1 false).1).2.2.2.2.1, (rOf (rSum v 1 false).1).2.2.2.2.2.1, f.2.2.2.2.2.2) (rMaj (decide (v ≥ 128)) false (decide ((rSum v 1 false).1 ≥ 128))) (rSum v 1 false).2.2.2))
def rInr (chip : Int) (v : Int) (f : TF) : QT3 := (ZJG chip v f).val
def ZLO : Entry := Zm ZIb ZIc (fun _ => none) (fun a => rInr a.1 a.2.1 a.2.2)
theorem ZJF : Zb Tryz.prog 218 ZLO :=
 pureQ 8191 [(260, ZLy), (262, rOfE), (263, ZBC), (264, ZJD)] [] ZIb ZIc ⟨ZJx, ZH7, ZwA, ZBM, trivial⟩ Tryz.func218 Tryz.call218 trivial (t := fun a => ZJG a.1 a.2.1 a.2.2) (fun a => by kernel_rfl)
abbrev ZIg : List Sh := [Sh.one (R.int i64), Sh.one (R.int u8), Sh.agg rcF7]
abbrev ZIh : Rs := Rs.tup [Sh.one (R.int u8), Sh.agg rcF7]
def ZJJ (chip : Int) (v : Int) (f : TF) : RT (QT3) :=
 .leaf (((ZbM v 1 false).1, Zl3 chip ((rOf (ZbM v 1 false).1).1, (rOf (ZbM v 1 false).1).2.1, (rOf (ZbM v 1 false).1).2.2.1, (ZbM v 1 false).2.2.1, (rOf (ZbM v 1 false).1).2.2.2.2.1, (rOf (ZbM v 1 false).1).2.2.2.2.2.1, f.2.2.2.2.2.2) (rMaj (decide (v ≥ 128)) true (decide ((ZbM v 1 false).1 ≥ 128))) (ZbM v 1 false).2.2.2))
def rDcr (chip : Int) (v : Int) (f : TF) : QT3 := (ZJJ chip v f).val
def ZLT : Entry := Zm ZIg ZIh (fun _ => none) (fun a => rDcr a.1 a.2.1 a.2.2)
theorem ZJI : Zb Tryz.prog 219 ZLT :=
 pureQ 8191 [(261, ZIe), (262, rOfE), (263, ZBC), (264, ZJD)] [] ZIg ZIh ⟨ZGd, ZH7, ZwA, ZBM, trivial⟩ Tryz.func219 Tryz.call219 trivial (t := fun a => ZJJ a.1 a.2.1 a.2.2) (fun a => by kernel_rfl)
def ZLN (chip : Int) (v : Int) (f : TF) : RT (QT3) :=
 .leaf ((u16.wrap (v + 1), f.1, f.2.1, bif rOn chip then v == 65535 else f.2.2.1, f.2.2.2))
def rInx (chip : Int) (v : Int) (f : TF) : QT3 := (ZLN chip v f).val
def ZLS (chip : Int) (v : Int) (f : TF) : RT (QT3) :=
 .leaf ((u16.wrap (v - 1), f.1, f.2.1, bif rOn chip then v == 0 else f.2.2.1, f.2.2.2))
def rDcx (chip : Int) (v : Int) (f : TF) : QT3 := (ZLS chip v f).val
def ZLU (chip : Int) (a : Int) (b : Int) (f : TF) : RT (QT3) :=
 .leaf ((u16.wrap (a + b), f.1, f.2.1, f.2.2.1, f.2.2.2.1, f.2.2.2.2.1, bif rOn chip then decide (i64.wrap (i64.wrap (IntKind.i16.wrap a) + i64.wrap (IntKind.i16.wrap b)) < -32768) || decide (i64.wrap (i64.wrap (IntKind.i16.wrap a) + i64.wrap (IntKind.i16.wrap b)) > 32767) else f.2.2.2.2.2.1, decide (i64.wrap (i64.wrap a + i64.wrap b) > 65535)))
def rDad (chip : Int) (a : Int) (b : Int) (f : TF) : QT3 := (ZLU chip a b f).val
def ZId (a : Int) (b : Int) : RT (QT3) :=
 let x1 := ZbM (u8.wrap (shrI u16 a 8)) (u8.wrap (shrI u16 b 8)) (ZbM (u8.wrap a) (u8.wrap b) false).2.1
 let x2 := x1.1
 let x3 := x2 == 0
 let x4 := ZdC x2 (ZbM (u8.wrap a) (u8.wrap b) false).1
 let x5 := decide (x2 ≥ 128)
 let x6 := rMaj (decide (a ≥ 32768)) (decide (b < 32768)) x5
 let x7 := x1.2
 let x8 := x7.2
 let x9 := x8.1
 let x10 := Zje x2
 let x11 := x8.2
 let x12 := x7.1
 .leaf ((bif x3 then x4 else x4, bif x3 then x5 else x5, x3 && (ZbM (u8.wrap a) (u8.wrap b) false).1 == 0, bif x3 then x6 else x6, bif x3 then x9 else x9, bif x3 then x10 else x10, bif x3 then x11 else x11, bif x3 then x12 else x12))
def ZB1 (a : Int) (b : Int) : QT3 := (ZId a b).val
def ZLV (chip : Int) (a : Int) (f : TF) : RT (QT3) :=
 let x1 : Int := bif f.2.2.2.1 || decide (andI u8 a 15 > 9) then 6 else 0
 let x2 := rSum a (bif f.2.2.2.2.2.2 || decide (a > 153) then u8.wrap (x1 + 96) else x1) false
 let x3 := x2.1
 let x4 := rOf x3
 let x5 := x4.2
 let x6 := x5.2
 let x7 := x2.2.2
 let x8 := x6.2.2
 .leaf ((x3, Zl3 chip (x4.1, x5.1, x6.1, x7.1, x8.1, x8.2.1, f.2.2.2.2.2.2 || decide (a > 153)) (rMaj (decide (a ≥ 128)) false (decide (x3 ≥ 128))) x7.2))
def rDaa (chip : Int) (a : Int) (f : TF) : QT3 := (ZLV chip a f).val
abbrev ZLB : Rs := Rs.tup [Sh.one (R.int u8), Sh.one R.bool]
def ZLA (op : Int) (a : Int) (c : Bool) : RT (Option (Int × Bool)) :=
 .br (andI i64 op 3 == 0 || (andI i64 op 3 == 1 || (!andI i64 op 3 == 2 || ZcL c 0))) (.br (andI i64 op 3 == 0) (.leaf (some ((orI u8 (shlI u8 a 1) (shrI u8 a 7), decide (a ≥ 128))))) (.br (andI i64 op 3 == 1) (.leaf (some ((orI u8 (shrI u8 a 1) (shlI u8 a 7), andI u8 a 1 == 1)))) (.br (andI i64 op 3 == 2) (.leaf (some ((orI u8 (shlI u8 a 1) (rBit c 0), decide (a ≥ 128))))) (.br (ZcL c 7) (.leaf (some ((orI u8 (shrI u8 a 1) (rBit c 7), andI u8 a 1 == 1)))) (.leaf none))))) (.leaf none)
def rRot (op : Int) (a : Int) (c : Bool) : Int × Bool := getO ZLB.dflt (ZLA op a c).val
def ZLX (v : Int) : RT (Int × Bool) :=
 .leaf ((orI u16 (shrI u16 v 1) (andI u16 v 32768), andI u16 v 1 == 1))
def ZGi (v : Int) : Int × Bool := (ZLX v).val
abbrev ZJz : Rs := Rs.tup [Sh.one (R.int u16), Sh.one R.bool, Sh.one R.bool]
def ZH0 (v : Int) (c : Bool) : RT (Option (Int × Bool × Bool)) :=
 .br (ZcL c 0) (.leaf (some ((orI u16 (shlI u16 v 1) (u16.wrap (rBit c 0)), decide (v ≥ 32768), andI u16 (orI u16 (shlI u16 v 1) (u16.wrap (rBit c 0))) 32768 != andI u16 v 32768)))) (.leaf none)
def ZBq (v : Int) (c : Bool) : Int × Bool × Bool := getO ZJz.dflt (ZH0 v c).val
abbrev ZGh : Rs := Rs.one (Sh.one (R.int u8))
def ZB6 (b : Bool) (n : Int) : RT (Option (Int)) :=
 .br (decide (0 ≤ n)) (.leaf (some (u8.wrap (shlI i64 (rOne b) n)))) (.leaf none)
def Zfq (b : Bool) (n : Int) : Int := getO ZGh.dflt (ZB6 b n).val
def Zan (b : Bool) (n : Int) : Bool := okB (ZB6 b n).val
abbrev ZLC : Rs := Rs.tup [Sh.one (R.int u8), Sh.agg ZaT]
def ZFT (c : TC) (l : QT1) : RT (Option (Int × TC)) :=
 let x1 := bif c.2.2.2.2.2.2.2.2.2.2.1 then c.2.2.2.2.2.2.2.2.2.2.2.1 else c.2.2.1
 .br (!Zan l.2.2.2.1 7 || (!Zan c.2.2.2.2.2.2.2.1 6 || (!Zan l.2.2.2.2.2.2.1 5 || (!Zan l.2.2.2.2.2.2.2.1 4 || Zan x1 3)))) (.br (!Zan l.2.2.2.1 7 || (!Zan c.2.2.2.2.2.2.2.1 6 || (!Zan l.2.2.2.2.2.2.1 5 || Zan l.2.2.2.2.2.2.2.1 4))) (.br (!Zan l.2.2.2.1 7 || (!Zan c.2.2.2.2.2.2.2.1 6 || Zan l.2.2.2.2.2.2.1 5)) (.br (!Zan l.2.2.2.1 7 || Zan c.2.2.2.2.2.2.2.1 6) (.br (Zan l.2.2.2.1 7) (.leaf (some ((orI u8 (orI u8 (orI u8 (orI u8 (orI u8 (Zfq l.2.2.2.1 7) (Zfq c.2.2.2.2.2.2.2.1 6)) (Zfq l.2.2.2.2.2.2.1 5)) (Zfq l.2.2.2.2.2.2.2.1 4)) (Zfq x1 3)) (andI u8 c.2.2.2.2.2.1 7), c.1, c.2.1, c.2.2.1, c.2.2.2.1, c.2.2.2.2.1, c.2.2.2.2.2.1, c.2.2.2.2.2.2.1, c.2.2.2.2.2.2.2.1, c.2.2.2.2.2.2.2.2.1, c.2.2.2.2.2.2.2.2.2.1, false, false, c.2.2.2.2.2.2.2.2.2.2.2.2)))) (.leaf none)) (.leaf none)) (.leaf none)) (.leaf none)) (.leaf none)
def rRim (c : TC) (l : QT1) : Int × TC := getO ZLC.dflt (ZFT c l).val
def ZLD (c : TC) (l : QT1) : Bool := okB (ZFT c l).val
def ZJy (c : TC) (a : Int) : RT TC :=
 .leaf ((c.1, c.2.1, c.2.2.1, c.2.2.2.1, c.2.2.2.2.1, bif andI u8 a 8 != 0 then andI u8 a 7 else c.2.2.2.2.2.1, c.2.2.2.2.2.2.1, !andI u8 a 16 != 0 && c.2.2.2.2.2.2.2.1, c.2.2.2.2.2.2.2.2.1, c.2.2.2.2.2.2.2.2.2.1, c.2.2.2.2.2.2.2.2.2.2.1, c.2.2.2.2.2.2.2.2.2.2.2.1, bif andI u8 a 64 != 0 then andI u8 a 128 != 0 else c.2.2.2.2.2.2.2.2.2.2.2.2))
def rSim (c : TC) (a : Int) : TC := (ZJy c a).val
abbrev ZwJ : List Sh := [Sh.one (R.int i64), Sh.agg rcF7]
abbrev ZwK : Rs := Rs.one (Sh.one R.bool)
def ZtA (c : Int) (f : TF) : RT (Bool) :=
 .br (c == 0) (.leaf (!f.2.1)) (.br (c == 1) (.leaf f.2.1) (.br (c == 2) (.leaf (!f.2.2.2.2.2.2)) (.br (c == 3) (.leaf f.2.2.2.2.2.2) (.br (c == 4) (.leaf (!f.2.2.2.2.1)) (.br (c == 5) (.leaf f.2.2.2.2.1) (.br (c == 6) (.leaf (!f.1)) (.br (c == 7) (.leaf f.1) (.br (c == 8) (.leaf (!f.2.2.1)) (.br (c == 9) (.leaf f.2.2.1) (.br (c == 10) (.leaf f.2.2.2.2.2.1) (.leaf (c == 11))))))))))))
def ZdD (c : Int) (f : TF) : Bool := (ZtA c f).val
def ZBV : Entry := Zm ZwJ ZwK (fun _ => none) (fun a => ZdD a.1 a.2)
theorem ZBU : Zb Tryz.prog 220 ZBV :=
 pureQ 2397219371124831 [] [] ZwJ ZwK trivial Tryz.func220 Tryz.call220 trivial (t := fun a => ZtA a.1 a.2) (fun a => by kernel_rfl)
def Zwk (s : Int) : RT (Int) :=
 .br (s == 1) (.leaf (36)) (.br (s == 2) (.leaf (60)) (.br (s == 3) (.leaf (52)) (.br (s == 4) (.leaf (44)) (.leaf (0)))))
def Zu (s : Int) : Int := (Zwk s).val
abbrev ZjT : List Sh := [Sh.one (R.int i64)]
abbrev ZjU : Rs := Rs.one (Sh.one R.bool)
def Zmz (s : Int) : RT (Bool) :=
 .leaf (decide (s ≥ 1) && decide (s ≤ 4))
def Za (s : Int) : Bool := (Zmz s).val
def ZmA : Entry := Zm ZjT ZjU (fun _ => none) (fun a => Za a)
theorem ZqS : Zb Tryz.prog 104 ZmA :=
 pureQ 7 [] [] ZjT ZjU trivial Tryz.func104 Tryz.call104 trivial (t := fun a => Zmz a) (fun a => by kernel_rfl)
abbrev Zms : List Sh := [Sh.one (R.int u8)]
abbrev Zmt : Rs := Rs.tup [Sh.agg (R.pair (R.int i64) (R.pair (R.int i64) (R.pair (R.int i64) (R.pair (R.int i64) (R.pair (R.int i64) (R.pair (R.int i64) (R.pair (R.int i64) (R.int i64)))))))), Sh.one R.bool]
def ZqC (op : Int) : RT (TI × Bool) :=
 .br (op == 8) (.leaf (((40, 1, 0, 0, 0, 0, 0, 0), true))) (.br (op == 16) (.leaf (((41, 1, 0, 0, 0, 0, 0, 0), true))) (.br (op == 24) (.leaf (((42, 1, 0, 0, 0, 0, 0, 0), true))) (.br (op == 32) (.leaf (((38, 1, 0, 0, 0, 0, 0, 0), true))) (.br (op == 40) (.leaf (((43, 2, 0, 0, 0, 0, 0, 0), true))) (.br (op == 48) (.leaf (((39, 1, 0, 0, 0, 0, 0, 0), true))) (.br (op == 56) (.leaf (((44, 2, 0, 0, 0, 0, 0, 0), true))) (.br (op == 203) (.leaf (((45, 1, 0, 0, 0, 0, 10, 0), true))) (.br (op == 217) (.leaf (((46, 1, 0, 0, 0, 0, 0, 0), true))) (.br (op == 221) (.leaf (((24, 3, 0, 0, 0, 0, 8, 0), true))) (.br (op == 237) (.leaf (((47, 1, 0, 0, 0, 0, 0, 0), true))) (.br (op == 253) (.leaf (((24, 3, 0, 0, 0, 0, 9, 0), true))) (.leaf (((0, 0, 0, 0, 0, 0, 0, 0), false))))))))))))))
def ZnD (op : Int) : TI × Bool := (ZqC op).val
def ZqD : Entry := Zm Zms Zmt (fun _ => none) (fun a => ZnD a)
theorem ZsL : Zb Tryz.prog 173 ZqD :=
 pureQ 314146179375 [] [] Zms Zmt trivial Tryz.func173 Tryz.call173 trivial (t := fun a => ZqC a) (fun a => by kernel_rfl)
abbrev ZBE : List Sh := [Sh.one (R.int i64), Sh.one (R.int i64), Sh.one (R.int i64), Sh.one (R.int i64)]
abbrev ZsR : Rs := Rs.one (Sh.agg (R.pair (R.int i64) (R.pair (R.int i64) (R.pair (R.int i64) (R.pair (R.int i64) (R.pair (R.int i64) (R.pair (R.int i64) (R.pair (R.int i64) (R.int i64)))))))))
def ZBF (y : Int) (z : Int) (p : Int) (q : Int) : RT (Option TI) :=
 let x1 := decide (0 ≤ i64.wrap (y - 4) ∧ i64.wrap (y - 4) < 4)
 .br (z == 0) (.leaf (some ((1, 1, 0, 0, 0, 0, 0, 0)))) (.br (z == 1) (.br (q == 0) (.leaf (some ((4, 3, 0, 0, p, 0, 0, 0)))) (.leaf (some ((18, 1, 0, 0, p, 0, 0, 0))))) (.br (!z == 2 || ((bif y == 0 then y == 0 else y == 2) || ((bif y == 1 then y == 1 else y == 3) || x1))) (.br (z == 2) (.br (bif y == 0 then y == 0 else y == 2) (.leaf (some ((10, 1, 0, 0, p, 0, 0, 0)))) (.br (bif y == 1 then y == 1 else y == 3) (.leaf (some ((9, 1, 0, 0, p, 0, 0, 0)))) (.leaf (some ((bif i64.wrap (y - 4) == 0 then 8 else bif i64.wrap (y - 4) == ↑(0 + 1) then 7 else bif i64.wrap (y - 4) == ↑(0 + 1 + 1) then 6 else 5, 3, 0, 0, 0, 0, 0, 0)))))) (.br (!z == 3 || decide (0 ≤ q ∧ q < 2)) (.br (z == 3) (.leaf (some ((bif q == 0 then 16 else 17, 1, 0, 0, p, 0, 0, 0)))) (.br (z == 4) (.leaf (some ((14, 1, y, 0, 0, 0, 0, 0)))) (.br (z == 5) (.leaf (some ((15, 1, y, 0, 0, 0, 0, 0)))) (.br (z == 6) (.leaf (some ((3, 2, y, 0, 0, 0, 0, 0)))) (.br (decide (y < 4)) (.leaf (some ((23, 1, 0, 0, 0, y, 0, 0)))) (.br (x1) (.leaf (some ((bif i64.wrap (y - 4) == 0 then 19 else bif i64.wrap (y - 4) == ↑(0 + 1) then 20 else bif i64.wrap (y - 4) == ↑(0 + 1 + 1) then 21 else 22, 1, 0, 0, 0, 0, 0, 0)))) (.leaf none))))))) (.leaf none))) (.leaf none)))
def ZLI (y : Int) (z : Int) (p : Int) (q : Int) : QT5 := getO ZsR.dflt (ZBF y z p q).val
def ZH5 (y : Int) (z : Int) (p : Int) (q : Int) : Bool := okB (ZBF y z p q).val
def ZH4 : Entry := Zm ZBE ZsR (fun a => some (ZH5 a.1 a.2.1 a.2.2.1 a.2.2.2)) (fun a => ZLI a.1 a.2.1 a.2.2.1 a.2.2.2)
theorem ZF1 : Zb Tryz.prog 174 ZH4 :=
 pureP 19211217472071167 [] [] ZBE ZsR trivial Tryz.func174 Tryz.call174 trivial (t := fun a => ZBF a.1 a.2.1 a.2.2.1 a.2.2.2) (fun a => by kernel_rfl)
abbrev ZwB : List Sh := [Sh.one (R.int i64), Sh.one (R.int i64), Sh.one (R.int i64), Sh.one (R.int i64)]
abbrev ZnI : Rs := Rs.one (Sh.agg (R.pair (R.int i64) (R.pair (R.int i64) (R.pair (R.int i64) (R.pair (R.int i64) (R.pair (R.int i64) (R.pair (R.int i64) (R.pair (R.int i64) (R.int i64)))))))))
def ZsS (y : Int) (z : Int) (p : Int) (q : Int) : RT (Option TI) :=
 .br (z == 0) (.leaf (some ((26, 1, 0, 0, 0, 0, y, 0)))) (.br (z == 1) (.br (q == 0) (.leaf (some ((31, 1, 0, 0, p, 0, 0, 0)))) (.br (y == 5) (.leaf (some ((28, 1, 0, 0, 0, 0, 0, 0)))) (.br (y == 7) (.leaf (some ((29, 1, 0, 0, 0, 0, 0, 0)))) (.leaf (some ((26, 1, 0, 0, 0, 0, 11, 0))))))) (.br (z == 2 || (!z == 3 || ((bif y == 0 then y == 0 else y == 1) || (y == 2 || (y == 3 || decide (0 ≤ i64.wrap (y - 4) ∧ i64.wrap (y - 4) < 4)))))) (.br (z == 2) (.leaf (some ((24, 3, 0, 0, 0, 0, y, 0)))) (.br (z == 3) (.br (bif y == 0 then y == 0 else y == 1) (.leaf (some ((24, 3, 0, 0, 0, 0, 11, 0)))) (.br (y == 2) (.leaf (some ((34, 2, 0, 0, 0, 0, 0, 0)))) (.br (y == 3) (.leaf (some ((33, 2, 0, 0, 0, 0, 0, 0)))) (.leaf (some ((bif i64.wrap (y - 4) == 0 then 32 else bif i64.wrap (y - 4) == ↑(0 + 1) then 11 else bif i64.wrap (y - 4) == ↑(0 + 1 + 1) then 36 else 35, 1, 0, 0, 0, 0, 0, 0))))))) (.br (z == 4) (.leaf (some ((25, 3, 0, 0, 0, 0, y, 0)))) (.br (z == 5) (.br (q == 0) (.leaf (some ((30, 1, 0, 0, p, 0, 0, 0)))) (.leaf (some ((25, 3, 0, 0, 0, 0, 11, 0))))) (.br (z == 6) (.leaf (some ((13, 2, 0, 0, 0, y, 0, 0)))) (.leaf (some ((27, 1, 0, 0, 0, 0, 0, y))))))))) (.leaf none)))
def ZH6 (y : Int) (z : Int) (p : Int) (q : Int) : QT5 := getO ZnI.dflt (ZsS y z p q).val
def ZBI (y : Int) (z : Int) (p : Int) (q : Int) : Bool := okB (ZsS y z p q).val
def ZBH : Entry := Zm ZwB ZnI (fun a => some (ZBI a.1 a.2.1 a.2.2.1 a.2.2.2)) (fun a => ZH6 a.1 a.2.1 a.2.2.1 a.2.2.2)
theorem ZBG : Zb Tryz.prog 175 ZBH :=
 pureP 2324988294374376959 [] [] ZwB ZnI trivial Tryz.func175 Tryz.call175 trivial (t := fun a => ZsS a.1 a.2.1 a.2.2.1 a.2.2.2) (fun a => by kernel_rfl)
abbrev Zgc : List Sh := [Sh.one (R.int i64), Sh.one (R.int u8)]
abbrev Zgd : Rs := Rs.one (Sh.agg (R.pair (R.int i64) (R.pair (R.int i64) (R.pair (R.int i64) (R.pair (R.int i64) (R.pair (R.int i64) (R.pair (R.int i64) (R.pair (R.int i64) (R.int i64)))))))))
def ZdV (chip : Int) (op : Int) : RT (Option TI) :=
 .br ((ZnD op).2 && rOn chip) (.leaf (some (ZnD op).1)) (.br (!shrI u8 op 6 == 0 || ZH5 (i64.wrap (andI u8 (shrI u8 op 3) 7)) (i64.wrap (andI u8 op 7)) (shrI i64 (i64.wrap (andI u8 (shrI u8 op 3) 7)) 1) (andI i64 (i64.wrap (andI u8 (shrI u8 op 3) 7)) 1)) (.br (shrI u8 op 6 == 0) (.leaf (some (ZLI (i64.wrap (andI u8 (shrI u8 op 3) 7)) (i64.wrap (andI u8 op 7)) (shrI i64 (i64.wrap (andI u8 (shrI u8 op 3) 7)) 1) (andI i64 (i64.wrap (andI u8 (shrI u8 op 3) 7)) 1)))) (.br (shrI u8 op 6 == 1) (.br (op == 118) (.leaf (some ((37, 1, 0, 0, 0, 0, 0, 0)))) (.leaf (some ((2, 1, i64.wrap (andI u8 (shrI u8 op 3) 7), i64.wrap (andI u8 op 7), 0, 0, 0, 0))))) (.br (shrI u8 op 6 == 2) (.leaf (some ((12, 1, 0, i64.wrap (andI u8 op 7), 0, i64.wrap (andI u8 (shrI u8 op 3) 7), 0, 0)))) (.br (ZBI (i64.wrap (andI u8 (shrI u8 op 3) 7)) (i64.wrap (andI u8 op 7)) (shrI i64 (i64.wrap (andI u8 (shrI u8 op 3) 7)) 1) (andI i64 (i64.wrap (andI u8 (shrI u8 op 3) 7)) 1)) (.leaf (some (ZH6 (i64.wrap (andI u8 (shrI u8 op 3) 7)) (i64.wrap (andI u8 op 7)) (shrI i64 (i64.wrap (andI u8 (shrI u8 op 3) 7)) 1) (andI i64 (i64.wrap (andI u8 (shrI u8 op 3) 7)) 1)))) (.leaf none))))) (.leaf none))
def Zc (chip : Int) (op : Int) : QT5 := getO Zgd.dflt (ZdV chip op).val
def Ziy (chip : Int) (op : Int) : Bool := okB (ZdV chip op).val
def ZGe : Entry := Zm Zgc Zgd (fun a => some (Ziy a.1 a.2)) (fun a => Zc a.1 a.2)
theorem ZyI : Zb Tryz.prog 107 ZGe :=
 pureP 70644158956031 [(146, rOnE), (173, ZqD), (174, ZH4), (175, ZBH)] [] Zgc Zgd ⟨ZqM, ZsL, ZF1, ZBG, trivial⟩ Tryz.func107 Tryz.call107 trivial (t := fun a => ZdV a.1 a.2) (fun a => by kernel_rfl)
end
end Go.Proofs.YtghoimllhpjkjaaGreat
