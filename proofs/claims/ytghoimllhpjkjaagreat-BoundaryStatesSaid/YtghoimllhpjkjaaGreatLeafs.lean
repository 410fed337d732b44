/-
  Contracts of functions; each found by the symbolic executor and checked by the kernel. Conditions: none.
-/
import Derived.Test.YtghoimllhpjkjaaGreatS3D
import Derived.Test.YtghoimllhpjkjaaGreatProg
open Go.IntKind (u8 u16 i64)
set_option linter.unusedSimpArgs false
open Go Go.S3 Go.Proofs
set_option linter.unusedVariables false
set_option maxRecDepth 100000
namespace Go.Proofs.YtghoimllhpjkjaaGreat
noncomputable section
abbrev Zsr : List Sh := [Sh.one (R.int u8)]
abbrev Zky : Rs := Rs.one (Sh.one R.bool)
def Zpy (b : Int) : RT (Option (Bool)) :=
 let x1 := andI u8 (andI u8 b (u8.wrap (b - 1))) (u8.wrap (andI u8 b (u8.wrap (b - 1)) - 1))
 let x2 := !x1 != 0
 let x3 := andI u8 x1 (u8.wrap (x1 - 1))
 let x4 := x3 != 0
 let x5 := andI u8 x3 (u8.wrap (x3 - 1))
 let x6 := !x5 != 0
 let x7 := andI u8 x5 (u8.wrap (x5 - 1))
 let x8 := x7 != 0
 let x9 := andI u8 x7 (u8.wrap (x7 - 1))
 let x10 := !x9 != 0
 let x11 := andI u8 x9 (u8.wrap (x9 - 1))
 let x12 := x11 != 0
 let x13 := andI u8 x11 (u8.wrap (x11 - 1))
 let x14 := !x13 != 0
 .br (!b != 0 || (!andI u8 b (u8.wrap (b - 1)) != 0 || (x2 || (!x4 || (x6 || (!x8 || (x10 || (!x12 || (x14 || !andI u8 x13 (u8.wrap (x13 - 1)) != 0))))))))) (.leaf (some (!b != 0 || andI u8 b (u8.wrap (b - 1)) != 0 && (x2 || x4 && (x6 || x8 && (x10 || x12 && x14)))))) (.leaf none)
def Zpz (b : Int) : Bool := getO Zky.dflt (Zpy b).val
def ZiW (b : Int) : Bool := okB (Zpy b).val
def Zyp : Entry := Zk Zsr Zky (fun a => some (ZiW a)) (fun a => Zpz a)
theorem ZAP : Zc Tryz.prog 334 Zyp :=
 Zkm (P := Tryz.prog) (n := 15) (k := 10) (l := []) (ol := []) trivial Tryz.func334 rfl (by kernel_rfl) Tryz.call334 trivial (ts := Zsr) (rs := Zky) (t := fun a => Zpy a) (fun a => by kernel_rfl)
abbrev ZKj : List Sh := [Sh.one R.bool, Sh.one R.bool, Sh.one R.bool]
abbrev ZKk : Rs := Rs.one (Sh.one R.bool)
def ZNJ (a : Bool) (b : Bool) (c : Bool) : RT (Bool) :=
 .leaf (bif a then b || bif a then c || b && c else b && c else bif a then c || b && c else b && c)
def pMaj (a : Bool) (b : Bool) (c : Bool) : Bool := (ZNJ a b c).val
def ZAZ : Entry := Zk ZKj ZKk (fun _ => none) (fun a => pMaj a.1 a.2.1 a.2.2)
theorem Zlb : Zc Tryz.prog 315 ZAZ :=
 pureQ 127 [] [] ZKj ZKk trivial Tryz.func315 Tryz.call315 trivial (t := fun a => ZNJ a.1 a.2.1 a.2.2) (fun a => by kernel_rfl)
abbrev ZKg : List Sh := [Sh.one R.bool]
abbrev ZKh : Rs := Rs.one (Sh.one (R.int i64))
def ZNH (b : Bool) : RT (Int) :=
 .br (b) (.leaf (1)) (.leaf (0))
def pOne (b : Bool) : Int := (ZNH b).val
def ZLZ : Entry := Zk ZKg ZKh (fun _ => none) (fun a => pOne a)
theorem ZEV : Zc Tryz.prog 332 ZLZ :=
 pureQ 7 [] [] ZKg ZKh trivial Tryz.func332 Tryz.call332 trivial (t := fun a => ZNH a) (fun a => by kernel_rfl)
abbrev Zsm : List Sh := [Sh.one (R.int i64)]
abbrev Zsn : Rs := Rs.one (Sh.one R.bool)
def ZiT (n : Int) : RT (Bool) :=
 .leaf (decide (n < -128) || decide (n > 127))
def Zkr (n : Int) : Bool := (ZiT n).val
def Zpq : Entry := Zk Zsm Zsn (fun _ => none) (fun a => Zkr a)
theorem Zm6 : Zc Tryz.prog 333 Zpq :=
 pureQ 7 [] [] Zsm Zsn trivial Tryz.func333 Tryz.call333 trivial (t := fun a => ZiT a) (fun a => by kernel_rfl)
abbrev ZKc : List Sh := [Sh.one (R.int u8), Sh.one (R.int u8), Sh.one R.bool]
abbrev ZKd : Rs := Rs.tup [Sh.one (R.int u8), Sh.one R.bool, Sh.one R.bool, Sh.one R.bool]
def ZLL (a : Int) (b : Int) (c : Bool) : RT (QT14) :=
 let x1 := i64.wrap (i64.wrap (i64.wrap a + i64.wrap b) + pOne c)
 .leaf ((u8.wrap x1, decide (x1 > 255), decide (i64.wrap (i64.wrap (i64.wrap (andI u8 a 15) + i64.wrap (andI u8 b 15)) + pOne c) > 15), Zkr (i64.wrap (i64.wrap (i64.wrap (IntKind.i8.wrap a) + i64.wrap (IntKind.i8.wrap b)) + pOne c))))
def pSum (a : Int) (b : Int) (c : Bool) : QT14 := (ZLL a b c).val
def ZH6 : Entry := Zk ZKc ZKd (fun _ => none) (fun a => pSum a.1 a.2.1 a.2.2)
theorem Zvf : Zc Tryz.prog 312 ZH6 :=
 pureQ 4095 [(332, ZLZ), (333, Zpq)] [] ZKc ZKd ⟨ZEV, Zm6, trivial⟩ Tryz.func312 Tryz.call312 trivial (t := fun a => ZLL a.1 a.2.1 a.2.2) (fun a => by kernel_rfl)
abbrev ZFx : List Sh := [Sh.one (R.int u8), Sh.one (R.int u8), Sh.one R.bool]
abbrev ZFz : Rs := Rs.tup [Sh.one (R.int u8), Sh.one R.bool, Sh.one R.bool, Sh.one R.bool]
def ZFy (a : Int) (b : Int) (c : Bool) : RT (QT14) :=
 let x1 := i64.wrap (i64.wrap (i64.wrap a - i64.wrap b) - pOne c)
 .leaf ((u8.wrap x1, decide (x1 < 0), decide (i64.wrap (i64.wrap (i64.wrap (i64.wrap (i64.wrap (andI u8 a 15) + 15) - i64.wrap (andI u8 b 15)) + 1) - pOne c) > 15), Zkr (i64.wrap (i64.wrap (i64.wrap (IntKind.i8.wrap a) - i64.wrap (IntKind.i8.wrap b)) - pOne c))))
def ZfZ (a : Int) (b : Int) (c : Bool) : QT14 := (ZFy a b c).val
def ZyI : Entry := Zk ZFx ZFz (fun _ => none) (fun a => ZfZ a.1 a.2.1 a.2.2)
theorem Zqu : Zc Tryz.prog 313 ZyI :=
 pureQ 4095 [(332, ZLZ), (333, Zpq)] [] ZFx ZFz ⟨ZEV, Zm6, trivial⟩ Tryz.func313 Tryz.call313 trivial (t := fun a => ZFy a.1 a.2.1 a.2.2) (fun a => by kernel_rfl)
abbrev Zv8 : List Sh := [Sh.one (R.int u8), Sh.one (R.int u8)]
abbrev Zv9 : Rs := Rs.one (Sh.one (R.int u16))
def ZKn (h : Int) (l : Int) : RT (Int) :=
 .leaf (orI u16 (shlI u16 (u16.wrap h) 8) (u16.wrap l))
def ZE9 (h : Int) (l : Int) : Int := (ZKn h l).val
def Zyz : Entry := Zk Zv8 Zv9 (fun _ => none) (fun a => ZE9 a.1 a.2)
theorem ZiX : Zc Tryz.prog 236 Zyz :=
 pureQ 31 [] [] Zv8 Zv9 trivial Tryz.func236 Tryz.call236 trivial (t := fun a => ZKn a.1 a.2) (fun a => by kernel_rfl)
abbrev ZKq : List Sh := [Sh.one R.bool, Sh.one (R.int i64)]
abbrev ZFJ : Rs := Rs.one (Sh.one (R.int u8))
def ZIA (b : Bool) (n : Int) : RT (Option (Int)) :=
 .br (!b || decide (0 ≤ n)) (.br (b) (.leaf (some (shlI u8 1 n))) (.leaf (some (0)))) (.leaf none)
def pBit (b : Bool) (n : Int) : Int := getO ZFJ.dflt (ZIA b n).val
def ZdB (b : Bool) (n : Int) : Bool := okB (ZIA b n).val
def ZNP : Entry := Zk ZKq ZFJ (fun a => some (ZdB a.1 a.2)) (fun a => pBit a.1 a.2)
theorem ZMn : Zc Tryz.prog 335 ZNP :=
 pureP 31 [] [] ZKq ZFJ trivial Tryz.func335 Tryz.call335 trivial (t := fun a => ZIA a.1 a.2) (fun a => by kernel_rfl)
abbrev ZES : List Sh := [Sh.one (R.int i64), Sh.agg rcF7]
abbrev Zvr : Rs := Rs.one (Sh.one (R.int u8))
def Zss (chip : Int) (f : TF) : RT (Option (Int)) :=
 let x1 := orI u8 (orI u8 (orI u8 (orI u8 (pBit f.1 7) (pBit f.2.1 6)) (pBit f.2.2.2.1 4)) (pBit f.2.2.2.2.1 2)) (pBit f.2.2.2.2.2.2 0)
 .br (!ZdB f.1 7 || (!ZdB f.2.1 6 || (!ZdB f.2.2.2.1 4 || (!ZdB f.2.2.2.2.1 2 || ZdB f.2.2.2.2.2.2 0)))) (.br (!ZdB f.1 7 || (!ZdB f.2.1 6 || (!ZdB f.2.2.2.1 4 || ZdB f.2.2.2.2.1 2))) (.br (!ZdB f.1 7 || (!ZdB f.2.1 6 || ZdB f.2.2.2.1 4)) (.br (!ZdB f.1 7 || ZdB f.2.1 6) (.br (ZdB f.1 7) (.br (!chip == 2 || (!ZdB f.2.2.1 5 || ZdB f.2.2.2.2.2.1 1)) (.br (!chip == 2 || ZdB f.2.2.1 5) (.br (chip == 2) (.leaf (some (orI u8 (orI u8 x1 (pBit f.2.2.1 5)) (pBit f.2.2.2.2.2.1 1)))) (.leaf (some (orI u8 x1 2)))) (.leaf none)) (.leaf none)) (.leaf none)) (.leaf none)) (.leaf none)) (.leaf none)) (.leaf none)
def ZIh (chip : Int) (f : TF) : Int := getO Zvr.dflt (Zss chip f).val
def Zyq (chip : Int) (f : TF) : Bool := okB (Zss chip f).val
def ZKf : Entry := Zk ZES Zvr (fun a => some (Zyq a.1 a.2)) (fun a => ZIh a.1 a.2)
theorem ZIg : Zc Tryz.prog 324 ZKf :=
 pureP 63 [(335, ZNP)] [] ZES Zvr ⟨ZMn, trivial⟩ Tryz.func324 Tryz.call324 trivial (t := fun a => Zss a.1 a.2) (fun a => by kernel_rfl)
abbrev Zsk : List Sh := [Sh.one (R.int i64), Sh.one (R.int u8)]
abbrev Zsl : Rs := Rs.one (Sh.agg rcF7)
def Zpo (chip : Int) (b : Int) : RT TF :=
 .leaf ((andI u8 b 128 != 0, andI u8 b 64 != 0, chip == 2 && andI u8 b 32 != 0, andI u8 b 16 != 0, andI u8 b 4 != 0, chip == 2 && andI u8 b 2 != 0, andI u8 b 1 != 0))
def Zpp (chip : Int) (b : Int) : TF := (Zpo chip b).val
def Zyj : Entry := Zk Zsk Zsl (fun _ => none) (fun a => Zpp a.1 a.2)
theorem ZAM : Zc Tryz.prog 323 Zyj :=
 pureQ 63 [] [] Zsk Zsl trivial Tryz.func323 Tryz.call323 trivial (t := fun a => Zpo a.1 a.2) (fun a => by kernel_rfl)
abbrev ZNI : List Sh := [Sh.one (R.int u8)]
abbrev ZL1 : Rs := Rs.one (Sh.agg rcF7)
def pOfT (r : Int) : RT (Option TF) :=
 .br (ZiW r) (.leaf (some ((decide (r ≥ 128), r == 0, false, false, Zpz r, false, false)))) (.leaf none)
def pOf (r : Int) : TF := getO ZL1.dflt (pOfT r).val
def pOfC (r : Int) : Bool := okB (pOfT r).val
def pOfE : Entry := Zk ZNI ZL1 (fun a => some (pOfC a)) (fun a => pOf a)
theorem Zst : Zc Tryz.prog 314 pOfE :=
 pureP 7 [(334, Zyp)] [] ZNI ZL1 ⟨ZAP, trivial⟩ Tryz.func314 Tryz.call314 trivial (t := fun a => pOfT a) (fun a => by kernel_rfl)
def ZlN : Entry := .tree (ZS (envX Tryz.prog [] [] 141872468127 8) Tryz.f310)
theorem ZlM : Zc Tryz.prog 310 ZlN := Zak (P := Tryz.prog) (n := 141872468127) (k := 8) (l := []) (ol := []) trivial Tryz.func310 rfl (by kernel_rfl) Tryz.call310 trivial
abbrev ZFh : List Sh := [Sh.agg ZdS, Sh.one (R.int i64)]
abbrev ZFi : Rs := Rs.one (Sh.one (R.int u8))
def ZL7 (r : TR) (n : Int) : RT (Int) :=
 .br (andI i64 n 7 == 0) (.leaf r.2.1) (.br (andI i64 n 7 == 1) (.leaf r.2.2.1) (.br (andI i64 n 7 == 2) (.leaf r.2.2.2.1) (.br (andI i64 n 7 == 3) (.leaf r.2.2.2.2.1) (.br (andI i64 n 7 == 4) (.leaf r.2.2.2.2.2.1) (.br (andI i64 n 7 == 5) (.leaf r.2.2.2.2.2.2.1) (.br (andI i64 n 7 == 7) (.leaf r.1) (.leaf (0))))))))
def pGet (r : TR) (n : Int) : Int := (ZL7 r n).val
def ZNL : Entry := Zk ZFh ZFi (fun _ => none) (fun a => pGet a.1 a.2)
theorem ZFg : Zc Tryz.prog 287 ZNL :=
 pureQ 63 [(310, ZlN)] [] ZFh ZFi ⟨ZlM, trivial⟩ Tryz.func287 Tryz.call287 trivial (t := fun a => ZL7 a.1 a.2) (fun a => by kernel_rfl)
abbrev ZEB : List Sh := [Sh.agg ZdS, Sh.one (R.int i64), Sh.one (R.int u8)]
abbrev ZEC : Rs := Rs.one (Sh.agg ZdS)
def ZLO (r : TR) (n : Int) (v : Int) : RT TR :=
 .br (andI i64 n 7 == 0) (.leaf ((r.1, v, r.2.2))) (.br (andI i64 n 7 == 1) (.leaf ((r.1, r.2.1, v, r.2.2.2))) (.br (andI i64 n 7 == 2) (.leaf ((r.1, r.2.1, r.2.2.1, v, r.2.2.2.2))) (.br (andI i64 n 7 == 3) (.leaf ((r.1, r.2.1, r.2.2.1, r.2.2.2.1, v, r.2.2.2.2.2))) (.br (andI i64 n 7 == 4) (.leaf ((r.1, r.2.1, r.2.2.1, r.2.2.2.1, r.2.2.2.2.1, v, r.2.2.2.2.2.2))) (.br (andI i64 n 7 == 5) (.leaf ((r.1, r.2.1, r.2.2.1, r.2.2.2.1, r.2.2.2.2.1, r.2.2.2.2.2.1, v, r.2.2.2.2.2.2.2))) (.br (andI i64 n 7 == 7) (.leaf ((v, r.2))) (.leaf (r))))))))
def pSet (r : TR) (n : Int) (v : Int) : TR := (ZLO r n v).val
def ZNE : Entry := Zk ZEB ZEC (fun _ => none) (fun a => pSet a.1 a.2.1 a.2.2)
theorem ZEA : Zc Tryz.prog 268 ZNE :=
 pureQ 255 [(310, ZlN)] [] ZEB ZEC ⟨ZlM, trivial⟩ Tryz.func268 Tryz.call268 trivial (t := fun a => ZLO a.1 a.2.1 a.2.2) (fun a => by kernel_rfl)
abbrev Zvp : List Sh := [Sh.agg ZdS, Sh.one (R.int i64)]
abbrev Zvq : Rs := Rs.one (Sh.one (R.int u16))
def ZEP (r : TR) (n : Int) : RT (Int) :=
 .br (andI i64 n 3 == 3) (.leaf r.2.2.2.2.2.2.2.2.1) (.leaf (ZE9 (pGet r (i64.wrap (2 * andI i64 n 3))) (pGet r (i64.wrap (i64.wrap (2 * andI i64 n 3) + 1)))))
def ZLW (r : TR) (n : Int) : Int := (ZEP r n).val
def ZNG : Entry := Zk Zvp Zvq (fun _ => none) (fun a => ZLW a.1 a.2)
theorem ZIf : Zc Tryz.prog 286 ZNG :=
 pureQ 31 [(236, Zyz), (287, ZNL)] [] Zvp Zvq ⟨ZiX, ZFg, trivial⟩ Tryz.func286 Tryz.call286 trivial (t := fun a => ZEP a.1 a.2) (fun a => by kernel_rfl)
abbrev Zhy : List Sh := [Sh.agg ZdS, Sh.one (R.int i64), Sh.one (R.int u16)]
abbrev Zhz : Rs := Rs.one (Sh.agg ZdS)
def Zks (r : TR) (n : Int) (v : Int) : RT TR :=
 .br (andI i64 n 3 == 3) (.leaf ((r.1, r.2.1, r.2.2.1, r.2.2.2.1, r.2.2.2.2.1, r.2.2.2.2.2.1, r.2.2.2.2.2.2.1, r.2.2.2.2.2.2.2.1, v, r.2.2.2.2.2.2.2.2.2))) (.leaf (pSet (pSet r (i64.wrap (2 * andI i64 n 3)) (u8.wrap (shrI u16 v 8))) (i64.wrap (i64.wrap (2 * andI i64 n 3) + 1)) (u8.wrap v)))
def Zpr (r : TR) (n : Int) (v : Int) : TR := (Zks r n v).val
def ZED : Entry := Zk Zhy Zhz (fun _ => none) (fun a => Zpr a.1 a.2.1 a.2.2)
theorem Zvg : Zc Tryz.prog 269 ZED :=
 pureQ 127 [(268, ZNE)] [] Zhy Zhz ⟨ZEA, trivial⟩ Tryz.func269 Tryz.call269 trivial (t := fun a => Zks a.1 a.2.1 a.2.2) (fun a => by kernel_rfl)
abbrev ZET : List Sh := [Sh.one (R.int i64), Sh.agg ZdS]
abbrev Zyr : Rs := Rs.one (Sh.one (R.int u16))
def ZIi (chip : Int) (r : TR) : RT (Option (Int)) :=
 .br (Zyq chip r.2.2.2.2.2.2.2.1) (.leaf (some (ZE9 r.1 (ZIh chip r.2.2.2.2.2.2.2.1)))) (.leaf none)
def pPSW (chip : Int) (r : TR) : Int := getO Zyr.dflt (ZIi chip r).val
def ZLY (chip : Int) (r : TR) : Bool := okB (ZIi chip r).val
def pPSWE : Entry := Zk ZET Zyr (fun a => some (ZLY a.1 a.2)) (fun a => pPSW a.1 a.2)
theorem ZLX : Zc Tryz.prog 290 pPSWE :=
 pureP 31 [(236, Zyz), (324, ZKf)] [] ZET Zyr ⟨ZiX, ZIg, trivial⟩ Tryz.func290 Tryz.call290 trivial (t := fun a => ZIi a.1 a.2) (fun a => by kernel_rfl)
abbrev Zkt : List Sh := [Sh.one (R.int i64), Sh.agg ZdS, Sh.one (R.int u16)]
abbrev Zku : Rs := Rs.one (Sh.agg ZdS)
def Zps (chip : Int) (r : TR) (v : Int) : RT TR :=
 .leaf ((u8.wrap (shrI u16 v 8), r.2.1, r.2.2.1, r.2.2.2.1, r.2.2.2.2.1, r.2.2.2.2.2.1, r.2.2.2.2.2.2.1, Zpp chip (u8.wrap v), r.2.2.2.2.2.2.2.2))
def Zvi (chip : Int) (r : TR) (v : Int) : TR := (Zps chip r v).val
def ZH8 : Entry := Zk Zkt Zku (fun _ => none) (fun a => Zvi a.1 a.2.1 a.2.2)
theorem ZAN : Zc Tryz.prog 281 ZH8 :=
 pureQ 127 [(323, Zyj)] [] Zkt Zku ⟨ZAM, trivial⟩ Tryz.func281 Tryz.call281 trivial (t := fun a => Zps a.1 a.2.1 a.2.2) (fun a => by kernel_rfl)
abbrev Zyv : List Sh := [Sh.one (R.int i64), Sh.one (R.int i64), Sh.one (R.int u8), Sh.one (R.int u8)]
abbrev ZpK : Rs := Rs.tup [Sh.one (R.int u8), Sh.agg rcF7]
def Zlc (chip : Int) (op : Int) (a : Int) (b : Int) : RT (Option (QT2)) :=
 let x1 : Int := bif op == 4 then andI u8 a b else bif op == 5 then xorI u8 a b else bif op == 6 then orI u8 a b else 0
 let x2 := pOf x1
 let x3 := x2.2
 let x4 := x3.2
 .br (pOfC x1) (.leaf (some ((x1, x2.1, x3.1, bif chip == 2 then pMaj (decide (a ≥ 128)) (decide (b ≥ 128)) (decide (x1 ≥ 128)) else x4.1, op == 4 && (chip == 2 || andI u8 (orI u8 a b) 8 != 0), x4.2.2)))) (.leaf none)
def Zyw (chip : Int) (op : Int) (a : Int) (b : Int) : QT2 := getO ZpK.dflt (Zlc chip op a b).val
def ZpL (chip : Int) (op : Int) (a : Int) (b : Int) : Bool := okB (Zlc chip op a b).val
def ZE4 : Entry := Zk Zyv ZpK (fun a => some (ZpL a.1 a.2.1 a.2.2.1 a.2.2.2)) (fun a => Zyw a.1 a.2.1 a.2.2.1 a.2.2.2)
theorem ZE3 : Zc Tryz.prog 311 ZE4 :=
 pureP 8858394623 [(314, pOfE), (315, ZAZ)] [] Zyv ZpK ⟨Zst, Zlb, trivial⟩ Tryz.func311 Tryz.call311 trivial (t := fun a => Zlc a.1 a.2.1 a.2.2.1 a.2.2.2) (fun a => by kernel_rfl)
abbrev ZMc : List Sh := [Sh.one (R.int i64), Sh.one (R.int i64), Sh.one (R.int u8), Sh.one (R.int u8), Sh.agg rcF7]
abbrev ZIt : Rs := Rs.tup [Sh.one (R.int u8), Sh.agg rcF7]
def pDoT (chip : Int) (op : Int) (a : Int) (b : Int) (f : TF) : RT (Option (QT2)) :=
 let x1 := decide (andI i64 op 7 ≥ 4) && decide (andI i64 op 7 ≤ 6)
 let x2 := f.2.2.2.2.2.2 && (andI i64 op 7 == 1 || andI i64 op 7 == 3)
 let x3 := ZfZ a b x2
 let x4 := x3.1
 let x5 := pOf x4
 let x6 := x5.2
 let x7 := x6.2
 let x8 := x3.2
 let x9 := x8.2
 let x10 := x7.2.2
 let x11 : TF := (x5.1, x6.1, bif chip == 2 then pMaj (decide (a ≥ 128)) (decide (b < 128)) (decide (x4 ≥ 128)) else x7.1, x9.1, x10.1, bif chip == 2 then x9.2 else x10.2.1, x8.1)
 let x12 := pSum a b x2
 let x13 := x12.1
 let x14 := pOf x13
 let x15 := x14.2
 let x16 := x15.2
 let x17 := x12.2
 let x18 := x17.2
 let x19 := x16.2.2
 let x20 : TF := (x14.1, x15.1, bif chip == 2 then pMaj (decide (a ≥ 128)) (decide (b ≥ 128)) (decide (x13 ≥ 128)) else x16.1, x18.1, x19.1, bif chip == 2 then x18.2 else x19.2.1, x17.1)
 .br (!x1 || ZpL chip (andI i64 op 7) a b) (.br (x1) (.leaf (some (Zyw chip (andI i64 op 7) a b))) (.br (andI i64 op 7 != 0 && andI i64 op 7 != 1) (.br (pOfC x4) (.br (andI i64 op 7 == 7) (.leaf (some ((a, x11)))) (.leaf (some ((x4, x11))))) (.leaf none)) (.br (pOfC x13) (.br (andI i64 op 7 == 7) (.leaf (some ((a, x20)))) (.leaf (some ((x13, x20))))) (.leaf none)))) (.leaf none)
def pDo (chip : Int) (op : Int) (a : Int) (b : Int) (f : TF) : QT2 := getO ZIt.dflt (pDoT chip op a b f).val
def pDoC (chip : Int) (op : Int) (a : Int) (b : Int) (f : TF) : Bool := okB (pDoT chip op a b f).val
def pDoE : Entry := Zk ZMc ZIt (fun a => some (pDoC a.1 a.2.1 a.2.2.1 a.2.2.2.1 a.2.2.2.2)) (fun a => pDo a.1 a.2.1 a.2.2.1 a.2.2.2.1 a.2.2.2.2)
theorem ZNO : Zc Tryz.prog 271 pDoE :=
 pureP 1048575 [(311, ZE4), (312, ZH6), (313, ZyI), (314, pOfE), (315, ZAZ)] [] ZMc ZIt ⟨ZE3, Zvf, Zqu, Zst, Zlb, trivial⟩ Tryz.func271 Tryz.call271 trivial (t := fun a => pDoT a.1 a.2.1 a.2.2.1 a.2.2.2.1 a.2.2.2.2) (fun a => by kernel_rfl)
abbrev Zsq : List Sh := [Sh.one (R.int i64), Sh.one (R.int u8), Sh.one (R.int u8), Sh.one R.bool, Sh.one R.bool, Sh.one R.bool, Sh.agg rcF7]
abbrev Zkw : Rs := Rs.one (Sh.agg rcF7)
def ZiU (chip : Int) (v : Int) (r : Int) (half : Bool) (over : Bool) (x : Bool) (f : TF) : RT (Option TF) :=
 .br (pOfC r) (.leaf (some (((pOf r).1, (pOf r).2.1, bif chip == 2 then pMaj (decide (v ≥ 128)) x (decide (r ≥ 128)) else (pOf r).2.2.1, half, (pOf r).2.2.2.2.1, bif chip == 2 then over else (pOf r).2.2.2.2.2.1, f.2.2.2.2.2.2)))) (.leaf none)
def Zkx (chip : Int) (v : Int) (r : Int) (half : Bool) (over : Bool) (x : Bool) (f : TF) : TF := getO Zkw.dflt (ZiU chip v r half over x f).val
def ZgK (chip : Int) (v : Int) (r : Int) (half : Bool) (over : Bool) (x : Bool) (f : TF) : Bool := okB (ZiU chip v r half over x f).val
def Zpt : Entry := Zk Zsq Zkw (fun a => some (ZgK a.1 a.2.1 a.2.2.1 a.2.2.2.1 a.2.2.2.2.1 a.2.2.2.2.2.1 a.2.2.2.2.2.2)) (fun a => Zkx a.1 a.2.1 a.2.2.1 a.2.2.2.1 a.2.2.2.2.1 a.2.2.2.2.2.1 a.2.2.2.2.2.2)
theorem Zm7 : Zc Tryz.prog 316 Zpt :=
 pureP 65535 [(314, pOfE), (315, ZAZ)] [] Zsq Zkw ⟨Zst, Zlb, trivial⟩ Tryz.func316 Tryz.call316 trivial (t := fun a => ZiU a.1 a.2.1 a.2.2.1 a.2.2.2.1 a.2.2.2.2.1 a.2.2.2.2.2.1 a.2.2.2.2.2.2) (fun a => by kernel_rfl)
abbrev ZFd : List Sh := [Sh.one (R.int i64), Sh.one (R.int u8), Sh.agg rcF7]
abbrev ZyA : Rs := Rs.tup [Sh.one (R.int u8), Sh.agg rcF7]
def ZIn (chip : Int) (v : Int) (f : TF) : RT (Option (QT2)) :=
 .br (ZgK chip v (pSum v 1 false).1 (pSum v 1 false).2.2.1 (pSum v 1 false).2.2.2 false f) (.leaf (some (((pSum v 1 false).1, Zkx chip v (pSum v 1 false).1 (pSum v 1 false).2.2.1 (pSum v 1 false).2.2.2 false f)))) (.leaf none)
def pInr (chip : Int) (v : Int) (f : TF) : QT2 := getO ZyA.dflt (ZIn chip v f).val
def ZL5 (chip : Int) (v : Int) (f : TF) : Bool := okB (ZIn chip v f).val
def pInrE : Entry := Zk ZFd ZyA (fun a => some (ZL5 a.1 a.2.1 a.2.2)) (fun a => pInr a.1 a.2.1 a.2.2)
theorem ZL4 : Zc Tryz.prog 273 pInrE :=
 pureP 4095 [(312, ZH6), (316, Zpt)] [] ZFd ZyA ⟨Zvf, Zm7, trivial⟩ Tryz.func273 Tryz.call273 trivial (t := fun a => ZIn a.1 a.2.1 a.2.2) (fun a => by kernel_rfl)
abbrev ZFD : List Sh := [Sh.one (R.int i64), Sh.one (R.int u8), Sh.agg rcF7]
abbrev ZyK : Rs := Rs.tup [Sh.one (R.int u8), Sh.agg rcF7]
def ZIw (chip : Int) (v : Int) (f : TF) : RT (Option (QT2)) :=
 .br (ZgK chip v (ZfZ v 1 false).1 (ZfZ v 1 false).2.2.1 (ZfZ v 1 false).2.2.2 true f) (.leaf (some (((ZfZ v 1 false).1, Zkx chip v (ZfZ v 1 false).1 (ZfZ v 1 false).2.2.1 (ZfZ v 1 false).2.2.2 true f)))) (.leaf none)
def pDcr (chip : Int) (v : Int) (f : TF) : QT2 := getO ZyK.dflt (ZIw chip v f).val
def ZMi (chip : Int) (v : Int) (f : TF) : Bool := okB (ZIw chip v f).val
def pDcrE : Entry := Zk ZFD ZyK (fun a => some (ZMi a.1 a.2.1 a.2.2)) (fun a => pDcr a.1 a.2.1 a.2.2)
theorem ZMh : Zc Tryz.prog 274 pDcrE :=
 pureP 4095 [(313, ZyI), (316, Zpt)] [] ZFD ZyK ⟨Zqu, Zm7, trivial⟩ Tryz.func274 Tryz.call274 trivial (t := fun a => ZIw a.1 a.2.1 a.2.2) (fun a => by kernel_rfl)
abbrev ZFa : List Sh := [Sh.one (R.int i64), Sh.one (R.int u16), Sh.agg rcF7]
abbrev ZFb : Rs := Rs.tup [Sh.one (R.int u16), Sh.agg rcF7]
def ZL3 (chip : Int) (v : Int) (f : TF) : RT (QT2) :=
 .leaf ((u16.wrap (v + 1), f.1, f.2.1, bif chip == 2 then v == 65535 else f.2.2.1, f.2.2.2))
def pInx (chip : Int) (v : Int) (f : TF) : QT2 := (ZL3 chip v f).val
def pInxE : Entry := Zk ZFa ZFb (fun _ => none) (fun a => pInx a.1 a.2.1 a.2.2)
theorem ZL2 : Zc Tryz.prog 275 pInxE :=
 pureQ 255 [] [] ZFa ZFb trivial Tryz.func275 Tryz.call275 trivial (t := fun a => ZL3 a.1 a.2.1 a.2.2) (fun a => by kernel_rfl)
abbrev ZFA : List Sh := [Sh.one (R.int i64), Sh.one (R.int u16), Sh.agg rcF7]
abbrev ZFB : Rs := Rs.tup [Sh.one (R.int u16), Sh.agg rcF7]
def ZMg (chip : Int) (v : Int) (f : TF) : RT (QT2) :=
 .leaf ((u16.wrap (v - 1), f.1, f.2.1, bif chip == 2 then v == 0 else f.2.2.1, f.2.2.2))
def pDcx (chip : Int) (v : Int) (f : TF) : QT2 := (ZMg chip v f).val
def pDcxE : Entry := Zk ZFA ZFB (fun _ => none) (fun a => pDcx a.1 a.2.1 a.2.2)
theorem ZMf : Zc Tryz.prog 276 pDcxE :=
 pureQ 255 [] [] ZFA ZFB trivial Tryz.func276 Tryz.call276 trivial (t := fun a => ZMg a.1 a.2.1 a.2.2) (fun a => by kernel_rfl)
abbrev ZFE : List Sh := [Sh.one (R.int i64), Sh.one (R.int u16), Sh.one (R.int u16), Sh.agg rcF7]
abbrev ZFF : Rs := Rs.tup [Sh.one (R.int u16), Sh.agg rcF7]
def ZMk (chip : Int) (a : Int) (b : Int) (f : TF) : RT (QT2) :=
 .leaf ((u16.wrap (a + b), f.1, f.2.1, f.2.2.1, f.2.2.2.1, f.2.2.2.2.1, bif chip == 2 then andI u16 (andI u16 (xorI u16 a (u16.wrap (a + b))) (xorI u16 b (u16.wrap (a + b)))) 32768 != 0 else f.2.2.2.2.2.1, decide (u16.wrap (a + b) < a)))
def pDad (chip : Int) (a : Int) (b : Int) (f : TF) : QT2 := (ZMk chip a b f).val
def pDadE : Entry := Zk ZFE ZFF (fun _ => none) (fun a => pDad a.1 a.2.1 a.2.2.1 a.2.2.2)
theorem ZMj : Zc Tryz.prog 277 pDadE :=
 pureQ 2047 [] [] ZFE ZFF trivial Tryz.func277 Tryz.call277 trivial (t := fun a => ZMk a.1 a.2.1 a.2.2.1 a.2.2.2) (fun a => by kernel_rfl)
abbrev Zwn : List Sh := [Sh.one (R.int u16), Sh.one (R.int u16)]
abbrev Zqt : Rs := Rs.tup [Sh.one (R.int u16), Sh.agg rcF7]
def ZyH (a : Int) (b : Int) : RT (Option (QT2)) :=
 let x1 := ZfZ (u8.wrap (shrI u16 a 8)) (u8.wrap (shrI u16 b 8)) (ZfZ (u8.wrap a) (u8.wrap b) false).2.1
 let x2 := x1.1
 let x3 := pOf x2
 let x4 := x1.2
 let x5 := x4.2
 .br (pOfC x2) (.leaf (some ((ZE9 x2 (ZfZ (u8.wrap a) (u8.wrap b) false).1, x3.1, x2 == 0 && (ZfZ (u8.wrap a) (u8.wrap b) false).1 == 0, pMaj (decide (a ≥ 32768)) (decide (b < 32768)) (decide (x2 ≥ 128)), x5.1, x3.2.2.2.2.1, x5.2, x4.1)))) (.leaf none)
def ZMb (a : Int) (b : Int) : QT2 := getO Zqt.dflt (ZyH a b).val
def ZFv (a : Int) (b : Int) : Bool := okB (ZyH a b).val
def ZNN : Entry := Zk Zwn Zqt (fun a => some (ZFv a.1 a.2)) (fun a => ZMb a.1 a.2)
theorem ZIs : Zc Tryz.prog 283 ZNN :=
 pureP 32767 [(236, Zyz), (313, ZyI), (314, pOfE), (315, ZAZ)] [] Zwn Zqt ⟨ZiX, Zqu, Zst, Zlb, trivial⟩ Tryz.func283 Tryz.call283 trivial (t := fun a => ZyH a.1 a.2) (fun a => by kernel_rfl)
abbrev ZFH : List Sh := [Sh.one (R.int i64), Sh.one (R.int u8), Sh.agg rcF7]
abbrev ZyN : Rs := Rs.tup [Sh.one (R.int u8), Sh.agg rcF7]
def ZIy (chip : Int) (a : Int) (f : TF) : RT (Option (QT2)) :=
 let x1 : Int := bif f.2.2.2.1 || decide (andI u8 a 15 > 9) then 6 else 0
 let x2 := pSum a (bif f.2.2.2.2.2.2 || decide (a > 153) then u8.wrap (x1 + 96) else x1) false
 let x3 := x2.1
 let x4 := pOf x3
 let x5 := x4.2
 let x6 := x5.2
 let x7 := x2.2.2
 let x8 := x6.2.2
 .br (pOfC x3) (.leaf (some ((x3, x4.1, x5.1, bif chip == 2 then pMaj (decide (a ≥ 128)) false (decide (x3 ≥ 128)) else x6.1, x7.1, x8.1, bif chip == 2 then x7.2 else x8.2.1, f.2.2.2.2.2.2 || decide (a > 153))))) (.leaf none)
def pDaa (chip : Int) (a : Int) (f : TF) : QT2 := getO ZyN.dflt (ZIy chip a f).val
def ZMm (chip : Int) (a : Int) (f : TF) : Bool := okB (ZIy chip a f).val
def pDaaE : Entry := Zk ZFH ZyN (fun a => some (ZMm a.1 a.2.1 a.2.2)) (fun a => pDaa a.1 a.2.1 a.2.2)
theorem ZMl : Zc Tryz.prog 278 pDaaE :=
 pureP 32767 [(312, ZH6), (314, pOfE), (315, ZAZ)] [] ZFH ZyN ⟨Zvf, Zst, Zlb, trivial⟩ Tryz.func278 Tryz.call278 trivial (t := fun a => ZIy a.1 a.2.1 a.2.2) (fun a => by kernel_rfl)
abbrev ZKl : List Sh := [Sh.one R.bool]
abbrev ZKm : Rs := Rs.one (Sh.one (R.int u8))
def ZNK (c : Bool) : RT (Int) :=
 .br (c) (.leaf (1)) (.leaf (0))
def pLow (c : Bool) : Int := (ZNK c).val
def ZA0 : Entry := Zk ZKl ZKm (fun _ => none) (fun a => pLow a)
theorem Zv7 : Zc Tryz.prog 320 ZA0 :=
 pureQ 7 [] [] ZKl ZKm trivial Tryz.func320 Tryz.call320 trivial (t := fun a => ZNK a) (fun a => by kernel_rfl)
def Ze8 : Entry := .tree (ZS (envX Tryz.prog [] [] 7 8) Tryz.f317)
theorem ZhN : Zc Tryz.prog 317 Ze8 := Zak (P := Tryz.prog) (n := 7) (k := 8) (l := []) (ol := []) trivial Tryz.func317 rfl (by kernel_rfl) Tryz.call317 trivial
def Ze7 : Entry := .tree (ZS (envX Tryz.prog [] [] 7 8) Tryz.f318)
theorem ZhM : Zc Tryz.prog 318 Ze7 := Zak (P := Tryz.prog) (n := 7) (k := 8) (l := []) (ol := []) trivial Tryz.func318 rfl (by kernel_rfl) Tryz.call318 trivial
def Ze6 : Entry := .tree (ZS (envX Tryz.prog [(320, ZA0)] [] 15 8) Tryz.f319)
theorem ZhL : Zc Tryz.prog 319 Ze6 := Zak (P := Tryz.prog) (n := 15) (k := 8) (l := [(320, ZA0)]) (ol := []) ⟨Zv7, trivial⟩ Tryz.func319 rfl (by kernel_rfl) Tryz.call319 trivial
def Ze5 : Entry := .tree (ZS (envX Tryz.prog [(320, ZA0)] [] 15 8) Tryz.f321)
theorem ZhK : Zc Tryz.prog 321 Ze5 := Zak (P := Tryz.prog) (n := 15) (k := 8) (l := [(320, ZA0)]) (ol := []) ⟨Zv7, trivial⟩ Tryz.func321 rfl (by kernel_rfl) Tryz.call321 trivial
abbrev ZEF : List Sh := [Sh.one (R.int i64), Sh.one (R.int u8), Sh.one R.bool]
abbrev Zym : Rs := Rs.tup [Sh.one (R.int u8), Sh.one R.bool]
def ZIa (op : Int) (a : Int) (c : Bool) : RT (Option (Int × Bool)) :=
 .br (andI i64 op 3 == 0 || (andI i64 op 3 == ↑(0 + 1) || (andI i64 op 3 == ↑(0 + 1 + 1) || andI i64 op 3 == ↑(0 + 1 + 1 + 1)))) (.leaf (some ((bif andI i64 op 3 == 0 then orI u8 (shlI u8 a 1) (shrI u8 a 7) else bif andI i64 op 3 == ↑(0 + 1) then orI u8 (shrI u8 a 1) (shlI u8 a 7) else bif andI i64 op 3 == ↑(0 + 1 + 1) then orI u8 (shlI u8 a 1) (pLow c) else orI u8 (shrI u8 a 1) (shlI u8 (pLow c) 7), bif andI i64 op 3 == 0 then decide (a ≥ 128) else bif andI i64 op 3 == ↑(0 + 1) then andI u8 a 1 == 1 else bif andI i64 op 3 == ↑(0 + 1 + 1) then decide (a ≥ 128) else andI u8 a 1 == 1)))) (.leaf none)
def pRot (op : Int) (a : Int) (c : Bool) : Int × Bool := getO Zym.dflt (ZIa op a c).val
def ZLQ (op : Int) (a : Int) (c : Bool) : Bool := okB (ZIa op a c).val
def pRotE : Entry := Zk ZEF Zym (fun a => some (ZLQ a.1 a.2.1 a.2.2)) (fun a => pRot a.1 a.2.1 a.2.2)
theorem ZLP : Zc Tryz.prog 279 pRotE :=
 pureP 511 [(317, Ze8), (318, Ze7), (319, Ze6), (321, Ze5)] [] ZEF Zym ⟨ZhN, ZhM, ZhL, ZhK, trivial⟩ Tryz.func279 Tryz.call279 trivial (t := fun a => ZIa a.1 a.2.1 a.2.2) (fun a => by kernel_rfl)
abbrev Zwp : List Sh := [Sh.one (R.int u16)]
abbrev Zwq : Rs := Rs.tup [Sh.one (R.int u16), Sh.one R.bool]
def ZKr (v : Int) : RT (Int × Bool) :=
 .leaf ((orI u16 (shrI u16 v 1) (andI u16 v 32768), andI u16 v 1 == 1))
def ZNR (v : Int) : Int × Bool := (ZKr v).val
def ZNQ : Entry := Zk Zwp Zwq (fun _ => none) (fun a => ZNR a)
theorem ZIB : Zc Tryz.prog 284 ZNQ :=
 pureQ 15 [] [] Zwp Zwq trivial Tryz.func284 Tryz.call284 trivial (t := fun a => ZKr a) (fun a => by kernel_rfl)
abbrev Zvm : List Sh := [Sh.one (R.int u16), Sh.one R.bool]
abbrev Zvn : Rs := Rs.tup [Sh.one (R.int u16), Sh.one R.bool, Sh.one R.bool]
def ZEN (v : Int) (c : Bool) : RT (Int × Bool × Bool) :=
 .leaf ((orI u16 (shlI u16 v 1) (u16.wrap (pLow c)), decide (v ≥ 32768), andI u16 (xorI u16 (orI u16 (shlI u16 v 1) (u16.wrap (pLow c))) v) 32768 != 0))
def ZLV (v : Int) (c : Bool) : Int × Bool × Bool := (ZEN v c).val
def ZNF : Entry := Zk Zvm Zvn (fun _ => none) (fun a => ZLV a.1 a.2)
theorem ZIe : Zc Tryz.prog 285 ZNF :=
 pureQ 127 [(320, ZA0)] [] Zvm Zvn ⟨Zv7, trivial⟩ Tryz.func285 Tryz.call285 trivial (t := fun a => ZEN a.1 a.2) (fun a => by kernel_rfl)
abbrev ZEE : List Sh := [Sh.one R.bool, Sh.one (R.int i64)]
abbrev Zvj : Rs := Rs.one (Sh.one (R.int u8))
def Zyl (b : Bool) (n : Int) : RT (Option (Int)) :=
 .br (!b || decide (0 ≤ n)) (.br (b) (.leaf (some (shlI u8 1 n))) (.leaf (some (0)))) (.leaf none)
def Zsp (b : Bool) (n : Int) : Int := getO Zvj.dflt (Zyl b n).val
def Zb5 (b : Bool) (n : Int) : Bool := okB (Zyl b n).val
def ZKe : Entry := Zk ZEE Zvj (fun a => some (Zb5 a.1 a.2)) (fun a => Zsp a.1 a.2)
theorem ZH9 : Zc Tryz.prog 282 ZKe :=
 pureP 31 [] [] ZEE Zvj trivial Tryz.func282 Tryz.call282 trivial (t := fun a => Zyl a.1 a.2) (fun a => by kernel_rfl)
abbrev ZEH : List Sh := [Sh.agg Z3, Sh.agg (R.pair R.bool (R.pair R.bool rcF7))]
abbrev Zyn : Rs := Rs.tup [Sh.one (R.int u8), Sh.agg Z3]
def ZIc (c : TC) (l : QT0) : RT (Option (Int × TC)) :=
 let x1 := bif c.2.2.2.2.2.2.2.2.2.2.1 then c.2.2.2.2.2.2.2.2.2.2.2.1 else c.2.2.1
 .br (!Zb5 l.2.2.2.1 7 || (!Zb5 c.2.2.2.2.2.2.2.1 6 || (!Zb5 l.2.2.2.2.2.2.1 5 || (!Zb5 l.2.2.2.2.2.2.2.1 4 || Zb5 x1 3)))) (.br (!Zb5 l.2.2.2.1 7 || (!Zb5 c.2.2.2.2.2.2.2.1 6 || (!Zb5 l.2.2.2.2.2.2.1 5 || Zb5 l.2.2.2.2.2.2.2.1 4))) (.br (!Zb5 l.2.2.2.1 7 || (!Zb5 c.2.2.2.2.2.2.2.1 6 || Zb5 l.2.2.2.2.2.2.1 5)) (.br (!Zb5 l.2.2.2.1 7 || Zb5 c.2.2.2.2.2.2.2.1 6) (.br (Zb5 l.2.2.2.1 7) (.leaf (some ((orI u8 (orI u8 (orI u8 (orI u8 (orI u8 (Zsp l.2.2.2.1 7) (Zsp c.2.2.2.2.2.2.2.1 6)) (Zsp l.2.2.2.2.2.2.1 5)) (Zsp l.2.2.2.2.2.2.2.1 4)) (Zsp x1 3)) (andI u8 c.2.2.2.2.2.1 7), c.1, c.2.1, c.2.2.1, c.2.2.2.1, c.2.2.2.2.1, c.2.2.2.2.2.1, c.2.2.2.2.2.2.1, c.2.2.2.2.2.2.2.1, c.2.2.2.2.2.2.2.2.1, c.2.2.2.2.2.2.2.2.2.1, false, false, c.2.2.2.2.2.2.2.2.2.2.2.2)))) (.leaf none)) (.leaf none)) (.leaf none)) (.leaf none)) (.leaf none)
def pRim (c : TC) (l : QT0) : Int × TC := getO Zyn.dflt (ZIc c l).val
def ZLS (c : TC) (l : QT0) : Bool := okB (ZIc c l).val
def pRimE : Entry := Zk ZEH Zyn (fun a => some (ZLS a.1 a.2)) (fun a => pRim a.1 a.2)
theorem ZLR : Zc Tryz.prog 227 pRimE :=
 pureP 255 [(282, ZKe)] [] ZEH Zyn ⟨ZH9, trivial⟩ Tryz.func227 Tryz.call227 trivial (t := fun a => ZIc a.1 a.2) (fun a => by kernel_rfl)
abbrev ZEx : List Sh := [Sh.agg Z3, Sh.one (R.int u8)]
abbrev ZEy : Rs := Rs.one (Sh.agg Z3)
def ZLN (c : TC) (a : Int) : RT TC :=
 .leaf ((c.1, c.2.1, c.2.2.1, c.2.2.2.1, c.2.2.2.2.1, bif andI u8 a 8 != 0 then andI u8 a 7 else c.2.2.2.2.2.1, c.2.2.2.2.2.2.1, !andI u8 a 16 != 0 && c.2.2.2.2.2.2.2.1, c.2.2.2.2.2.2.2.2.1, c.2.2.2.2.2.2.2.2.2.1, c.2.2.2.2.2.2.2.2.2.2.1, c.2.2.2.2.2.2.2.2.2.2.2.1, bif andI u8 a 64 != 0 then andI u8 a 128 != 0 else c.2.2.2.2.2.2.2.2.2.2.2.2))
def pSim (c : TC) (a : Int) : TC := (ZLN c a).val
def pSimE : Entry := Zk ZEx ZEy (fun _ => none) (fun a => pSim a.1 a.2)
theorem ZLM : Zc Tryz.prog 228 pSimE :=
 pureQ 31 [] [] ZEx ZEy trivial Tryz.func228 Tryz.call228 trivial (t := fun a => ZLN a.1 a.2) (fun a => by kernel_rfl)
abbrev ZpN : List Sh := [Sh.one (R.int i64), Sh.agg rcF7]
abbrev ZpO : Rs := Rs.one (Sh.one R.bool)
def Zwa (c : Int) (f : TF) : RT (Bool) :=
 .br (bif c == 0 then c == 0 else c == 1) (.leaf (f.2.1 == (c == 1))) (.br (bif c == 2 then c == 2 else c == 3) (.leaf (f.2.2.2.2.2.2 == (c == 3))) (.br (bif c == 4 then c == 4 else c == 5) (.leaf (f.2.2.2.2.1 == (c == 5))) (.br (bif c == 6 then c == 6 else c == 7) (.leaf (f.1 == (c == 7))) (.br (bif c == 8 then c == 8 else c == 9) (.leaf (f.2.2.1 == (c == 9))) (.br (c == 10) (.leaf f.2.2.2.2.2.1) (.leaf (c == 11)))))))
def ZFf (c : Int) (f : TF) : Bool := (Zwa c f).val
def ZL6 : Entry := Zk ZpN ZpO (fun _ => none) (fun a => ZFf a.1 a.2)
theorem ZFe : Zc Tryz.prog 322 ZL6 :=
 pureQ 70644700037215 [] [] ZpN ZpO trivial Tryz.func322 Tryz.call322 trivial (t := fun a => Zwa a.1 a.2) (fun a => by kernel_rfl)
abbrev Zkp : List Sh := [Sh.one (R.int i64)]
abbrev Zkq : Rs := Rs.one (Sh.one (R.int u16))
def Zpn (s : Int) : RT (Int) :=
 .br (s == 1) (.leaf (36)) (.br (s == 2) (.leaf (60)) (.br (s == 3) (.leaf (52)) (.br (s == 4) (.leaf (44)) (.leaf (0)))))
def Zve (s : Int) : Int := (Zpn s).val
def ZH5 : Entry := Zk Zkp Zkq (fun _ => none) (fun a => Zve a)
theorem ZAL : Zc Tryz.prog 177 ZH5 :=
 pureQ 1367 [] [] Zkp Zkq trivial Tryz.func177 Tryz.call177 trivial (t := fun a => Zpn a) (fun a => by kernel_rfl)
abbrev Zyx : List Sh := [Sh.one (R.int u8)]
abbrev Zyy : Rs := Rs.tup [Sh.agg (R.pair (R.int i64) (R.pair (R.int i64) (R.pair (R.int i64) (R.pair (R.int i64) (R.pair (R.int i64) (R.pair (R.int i64) (R.pair (R.int i64) (R.int i64)))))))), Sh.one R.bool]
def ZE6 (op : Int) : RT (TI × Bool) :=
 .br (op == 8) (.leaf (((40, 1, 0, 0, 0, 0, 0, 0), true))) (.br (op == 16) (.leaf (((41, 1, 0, 0, 0, 0, 0, 0), true))) (.br (op == 24) (.leaf (((42, 1, 0, 0, 0, 0, 0, 0), true))) (.br (op == 32) (.leaf (((38, 1, 0, 0, 0, 0, 0, 0), true))) (.br (op == 40) (.leaf (((43, 2, 0, 0, 0, 0, 0, 0), true))) (.br (op == 48) (.leaf (((39, 1, 0, 0, 0, 0, 0, 0), true))) (.br (op == 56) (.leaf (((44, 2, 0, 0, 0, 0, 0, 0), true))) (.br (op == 203) (.leaf (((45, 1, 0, 0, 0, 0, 10, 0), true))) (.br (op == 217) (.leaf (((46, 1, 0, 0, 0, 0, 0, 0), true))) (.br (op == 221) (.leaf (((24, 3, 0, 0, 0, 0, 8, 0), true))) (.br (op == 237) (.leaf (((47, 1, 0, 0, 0, 0, 0, 0), true))) (.br (op == 253) (.leaf (((24, 3, 0, 0, 0, 0, 9, 0), true))) (.leaf (((0, 0, 0, 0, 0, 0, 0, 0), false))))))))))))))
def ZE8 (op : Int) : TI × Bool := (ZE6 op).val
def ZE7 : Entry := Zk Zyx Zyy (fun _ => none) (fun a => ZE8 a)
theorem ZE5 : Zc Tryz.prog 239 ZE7 :=
 pureQ 314146179375 [] [] Zyx Zyy trivial Tryz.func239 Tryz.call239 trivial (t := fun a => ZE6 a) (fun a => by kernel_rfl)
abbrev Znc : List Sh := [Sh.one (R.int u8)]
abbrev Znd : Rs := Rs.tup [Sh.agg (R.pair (R.int i64) (R.pair (R.int i64) (R.pair (R.int i64) (R.pair (R.int i64) (R.pair (R.int i64) (R.pair (R.int i64) (R.pair (R.int i64) (R.int i64)))))))), Sh.one R.bool]
def Zsv (op : Int) : RT (TI × Bool) :=
 .br (bif op == 0 then op == 0 else bif op == 8 then op == 8 else bif op == 16 then op == 16 else bif op == 24 then op == 24 else bif op == 32 then op == 32 else bif op == 40 then op == 40 else bif op == 48 then op == 48 else op == 56) (.leaf (((1, 1, 0, 0, 0, 0, 0, 0), true))) (.br (bif op == 195 then op == 195 else op == 203) (.leaf (((24, 3, 0, 0, 0, 0, 11, 0), true))) (.br (bif op == 201 then op == 201 else op == 217) (.leaf (((26, 1, 0, 0, 0, 0, 11, 0), true))) (.br (bif op == 205 then op == 205 else bif op == 221 then op == 221 else bif op == 237 then op == 237 else op == 253) (.leaf (((25, 3, 0, 0, 0, 0, 11, 0), true))) (.leaf (((0, 0, 0, 0, 0, 0, 0, 0), false))))))
def ZgL (op : Int) : TI × Bool := (Zsv op).val
def Zsw : Entry := Zk Znc Znd (fun _ => none) (fun a => ZgL a)
theorem Zwm : Zc Tryz.prog 240 Zsw :=
 pureQ 8945711 [] [] Znc Znd trivial Tryz.func240 Tryz.call240 trivial (t := fun a => Zsv a) (fun a => by kernel_rfl)
abbrev ZEW : List Sh := [Sh.one (R.int u8)]
abbrev Zvs : Rs := Rs.one (Sh.agg (R.pair (R.int i64) (R.pair (R.int i64) (R.pair (R.int i64) (R.pair (R.int i64) (R.pair (R.int i64) (R.pair (R.int i64) (R.pair (R.int i64) (R.int i64)))))))))
def ZEX (op : Int) : RT (Option TI) :=
 let x1 : QT20 := (0, 0, i64.wrap (andI u8 (shrI u8 op 4) 3), 0, 0, 0)
 let x2 : QT16 := (1, x1)
 let x3 := decide (i64.wrap (andI u8 (shrI u8 op 3) 7) < 4) && andI u8 op 8 != 0
 let x4 := decide (0 ≤ i64.wrap (i64.wrap (andI u8 (shrI u8 op 3) 7) - 4) ∧ i64.wrap (i64.wrap (andI u8 (shrI u8 op 3) 7) - 4) < 4)
 let x5 := i64.wrap (i64.wrap (andI u8 (shrI u8 op 3) 7) - 4) == 0
 let x6 := i64.wrap (i64.wrap (andI u8 (shrI u8 op 3) 7) - 4) == ↑(0 + 1)
 let x7 := i64.wrap (i64.wrap (andI u8 (shrI u8 op 3) 7) - 4) == ↑(0 + 1 + 1)
 let x8 : QT20 := (i64.wrap (andI u8 (shrI u8 op 3) 7), 0, 0, 0, 0, 0)
 let x9 : QT16 := (1, x8)
 .br (andI u8 op 7 == 1) (.br (andI u8 op 8 != 0) (.leaf (some ((18, x2)))) (.leaf (some ((4, 3, x1))))) (.br (!andI u8 op 7 == 2 || (x3 || (decide (i64.wrap (andI u8 (shrI u8 op 3) 7) < 4) || x4))) (.br (andI u8 op 7 == 2) (.br (x3) (.leaf (some ((9, x2)))) (.br (decide (i64.wrap (andI u8 (shrI u8 op 3) 7) < 4)) (.leaf (some ((10, x2)))) (.leaf (some ((bif x5 then 8 else bif x6 then 7 else bif x7 then 6 else 5, 3, 0, 0, 0, 0, 0, 0)))))) (.br (andI u8 op 7 == 3) (.br (andI u8 op 8 != 0) (.leaf (some ((17, x2)))) (.leaf (some ((16, x2))))) (.br (andI u8 op 7 == 4) (.leaf (some ((14, x9)))) (.br (andI u8 op 7 == 5) (.leaf (some ((15, x9)))) (.br (andI u8 op 7 == 6) (.leaf (some ((3, 2, x8)))) (.br (decide (i64.wrap (andI u8 (shrI u8 op 3) 7) < 4)) (.leaf (some ((23, 1, 0, 0, 0, i64.wrap (andI u8 (shrI u8 op 3) 7), 0, 0)))) (.br (x4) (.leaf (some ((bif x5 then 19 else bif x6 then 20 else bif x7 then 21 else 22, 1, 0, 0, 0, 0, 0, 0)))) (.leaf none)))))))) (.leaf none))
def ZL0 (op : Int) : QT4 := getO Zvs.dflt (ZEX op).val
def ZEY (op : Int) : Bool := okB (ZEX op).val
def ZKi : Entry := Zk ZEW Zvs (fun a => some (ZEY a)) (fun a => ZL0 a)
theorem ZIk : Zc Tryz.prog 241 ZKi :=
 pureP 614758941389750335 [] [] ZEW Zvs trivial Tryz.func241 Tryz.call241 trivial (t := fun a => ZEX a) (fun a => by kernel_rfl)
abbrev Zys : List Sh := [Sh.one (R.int u8)]
abbrev ZpA : Rs := Rs.one (Sh.agg (R.pair (R.int i64) (R.pair (R.int i64) (R.pair (R.int i64) (R.pair (R.int i64) (R.pair (R.int i64) (R.pair (R.int i64) (R.pair (R.int i64) (R.int i64)))))))))
def Zvt (op : Int) : RT (Option TI) :=
 let x1 : QT20 := (0, 0, 0, 0, i64.wrap (andI u8 (shrI u8 op 3) 7), 0)
 let x2 : QT16 := (1, 0, 0, i64.wrap (andI u8 (shrI u8 op 4) 3), 0, 0, 0)
 let x3 := andI u8 op 7 == 2 || (!andI u8 op 7 == 3 || (!decide (i64.wrap (andI u8 (shrI u8 op 3) 7) < 4) || decide (0 ≤ i64.wrap (i64.wrap (andI u8 (shrI u8 op 3) 7) - 2) ∧ i64.wrap (i64.wrap (andI u8 (shrI u8 op 3) 7) - 2) < 2)))
 let x4 : QT16 := (3, x1)
 .br (andI u8 op 7 == 0) (.leaf (some ((26, 1, x1)))) (.br (andI u8 op 7 == 1) (.br (!andI u8 op 8 != 0) (.leaf (some ((31, x2)))) (.br (i64.wrap (andI u8 (shrI u8 op 3) 7) == 5) (.leaf (some ((28, 1, 0, 0, 0, 0, 0, 0)))) (.leaf (some ((29, 1, 0, 0, 0, 0, 0, 0)))))) (.br (!x3 || (andI u8 op 7 == 2 || (!andI u8 op 7 == 3 || (decide (i64.wrap (andI u8 (shrI u8 op 3) 7) < 4) || decide (0 ≤ i64.wrap (i64.wrap (andI u8 (shrI u8 op 3) 7) - 4) ∧ i64.wrap (i64.wrap (andI u8 (shrI u8 op 3) 7) - 4) < 4))))) (.br (x3) (.br (andI u8 op 7 == 2) (.leaf (some ((24, x4)))) (.br (andI u8 op 7 == 3) (.br (decide (i64.wrap (andI u8 (shrI u8 op 3) 7) < 4)) (.leaf (some ((bif i64.wrap (i64.wrap (andI u8 (shrI u8 op 3) 7) - 2) == 0 then 34 else 33, 2, 0, 0, 0, 0, 0, 0)))) (.leaf (some ((bif i64.wrap (i64.wrap (andI u8 (shrI u8 op 3) 7) - 4) == 0 then 32 else bif i64.wrap (i64.wrap (andI u8 (shrI u8 op 3) 7) - 4) == ↑(0 + 1) then 11 else bif i64.wrap (i64.wrap (andI u8 (shrI u8 op 3) 7) - 4) == ↑(0 + 1 + 1) then 36 else 35, 1, 0, 0, 0, 0, 0, 0))))) (.br (andI u8 op 7 == 4) (.leaf (some ((25, x4)))) (.br (andI u8 op 7 == 5) (.leaf (some ((30, x2)))) (.br (andI u8 op 7 == 6) (.leaf (some ((13, 2, 0, 0, 0, i64.wrap (andI u8 (shrI u8 op 3) 7), 0, 0)))) (.leaf (some ((27, 1, 0, 0, 0, 0, 0, i64.wrap (andI u8 (shrI u8 op 3) 7)))))))))) (.leaf none)) (.leaf none)))
def ZE1 (op : Int) : QT4 := getO ZpA.dflt (Zvt op).val
def Zvu (op : Int) : Bool := okB (Zvt op).val
def ZE0 : Entry := Zk Zys ZpA (fun a => some (Zvu a)) (fun a => ZE1 a)
theorem ZEZ : Zc Tryz.prog 242 ZE0 :=
 pureP 614741495173873727 [] [] Zys ZpA trivial Tryz.func242 Tryz.call242 trivial (t := fun a => Zvt a) (fun a => by kernel_rfl)
abbrev ZgM : List Sh := [Sh.one (R.int i64), Sh.one (R.int u8)]
abbrev ZgN : Rs := Rs.one (Sh.agg (R.pair (R.int i64) (R.pair (R.int i64) (R.pair (R.int i64) (R.pair (R.int i64) (R.pair (R.int i64) (R.pair (R.int i64) (R.pair (R.int i64) (R.int i64)))))))))
def Zed (chip : Int) (op : Int) : RT (Option TI) :=
 let x1 : QT4 := (37, 1, 0, 0, 0, 0, 0, 0)
 let x2 : QT4 := (2, 1, i64.wrap (andI u8 (shrI u8 op 3) 7), i64.wrap (andI u8 op 7), 0, 0, 0, 0)
 let x3 : QT4 := (12, 1, 0, i64.wrap (andI u8 op 7), 0, i64.wrap (andI u8 (shrI u8 op 3) 7), 0, 0)
 .br (chip == 2) (.br (ZE8 op).2 (.leaf (some (ZE8 op).1)) (.br (ZgL op).2 (.leaf (some (ZgL op).1)) (.br (!shrI u8 op 6 == 0 || ZEY op) (.br (shrI u8 op 6 == 0) (.leaf (some (ZL0 op))) (.br (shrI u8 op 6 == 1) (.br (op == 118) (.leaf (some (x1))) (.leaf (some (x2)))) (.br (shrI u8 op 6 == 2) (.leaf (some (x3))) (.br (Zvu op) (.leaf (some (ZE1 op))) (.leaf none))))) (.leaf none)))) (.br (ZgL op).2 (.leaf (some (ZgL op).1)) (.br (!shrI u8 op 6 == 0 || ZEY op) (.br (shrI u8 op 6 == 0) (.leaf (some (ZL0 op))) (.br (shrI u8 op 6 == 1) (.br (op == 118) (.leaf (some (x1))) (.leaf (some (x2)))) (.br (shrI u8 op 6 == 2) (.leaf (some (x3))) (.br (Zvu op) (.leaf (some (ZE1 op))) (.leaf none))))) (.leaf none)))
def Zlg (chip : Int) (op : Int) : QT4 := getO ZgN.dflt (Zed chip op).val
def ZiZ (chip : Int) (op : Int) : Bool := okB (Zed chip op).val
def ZIu : Entry := Zk ZgM ZgN (fun a => some (ZiZ a.1 a.2)) (fun a => Zlg a.1 a.2)
theorem ZBG : Zc Tryz.prog 182 ZIu :=
 pureP 17594467746303 [(239, ZE7), (240, Zsw), (241, ZKi), (242, ZE0)] [] ZgM ZgN ⟨ZE5, Zwm, ZIk, ZEZ, trivial⟩ Tryz.func182 Tryz.call182 trivial (t := fun a => Zed a.1 a.2) (fun a => by kernel_rfl)
abbrev ZNl : List Sh := [Sh.one (R.int i64)]
abbrev ZNm : Rs := Rs.one (Sh.one R.bool)
def rOnT (chip : Int) : RT (Bool) :=
 .leaf (chip == 2)
def rOn (chip : Int) : Bool := (rOnT chip).val
def rOnE : Entry := Zk ZNl ZNm (fun _ => none) (fun a => rOn a)
theorem Zeu : Zc Tryz.prog 146 rOnE :=
 pureQ 7 [] [] ZNl ZNm trivial Tryz.func146 Tryz.call146 trivial (t := fun a => rOnT a) (fun a => by kernel_rfl)
abbrev Zr2 : List Sh := [Sh.one (R.int u8)]
abbrev Zr3 : Rs := Rs.one (Sh.one R.bool)
def ZxR (b : Int) : RT (Bool) :=
 let x1 := i64.wrap (i64.wrap (i64.wrap (i64.wrap (0 + 1) + 1) + 1) + 1)
 let x2 := i64.wrap (x1 + 1)
 let x3 := i64.wrap (x2 + 1)
 let x4 := bif andI u8 (shrI u8 b (i64.wrap (0 + 1))) 1 == 1 then !!andI u8 (shrI u8 b 0) 1 == 1 else !andI u8 (shrI u8 b 0) 1 == 1
 let x5 := bif andI u8 (shrI u8 b (i64.wrap (i64.wrap (0 + 1) + 1))) 1 == 1 then !x4 else x4
 let x6 := bif andI u8 (shrI u8 b (i64.wrap (i64.wrap (i64.wrap (0 + 1) + 1) + 1))) 1 == 1 then !x5 else x5
 let x7 := bif andI u8 (shrI u8 b x1) 1 == 1 then !x6 else x6
 let x8 := bif andI u8 (shrI u8 b x2) 1 == 1 then !x7 else x7
 let x9 := bif andI u8 (shrI u8 b x3) 1 == 1 then !x8 else x8
 .leaf (bif andI u8 (shrI u8 b (i64.wrap (x3 + 1))) 1 == 1 then !x9 else x9)
def Zjy (b : Int) : Bool := (ZxR b).val
def Zok : Entry := Zk Zr2 Zr3 (fun _ => none) (fun a => Zjy a)
theorem ZmU : Zc Tryz.prog 266 Zok :=
 Zyf (P := Tryz.prog) (n := 31) (k := 10) (l := []) (ol := []) trivial Tryz.func266 rfl (by kernel_rfl) Tryz.call266 trivial (ts := Zr2) (rs := Zr3) (t := fun a => ZxR a) (fun a => by kernel_rfl)
abbrev ZJO : List Sh := [Sh.one R.bool, Sh.one R.bool, Sh.one R.bool]
abbrev ZJP : Rs := Rs.one (Sh.one R.bool)
def ZNq (a : Bool) (b : Bool) (c : Bool) : RT (Bool) :=
 .leaf (bif a then b || bif a then c || b && c else b && c else bif a then c || b && c else b && c)
def rMaj (a : Bool) (b : Bool) (c : Bool) : Bool := (ZNq a b c).val
def ZzY : Entry := Zk ZJO ZJP (fun _ => none) (fun a => rMaj a.1 a.2.1 a.2.2)
theorem Zkb : Zc Tryz.prog 264 ZzY :=
 pureQ 127 [] [] ZJO ZJP trivial Tryz.func264 Tryz.call264 trivial (t := fun a => ZNq a.1 a.2.1 a.2.2) (fun a => by kernel_rfl)
abbrev ZJJ : List Sh := [Sh.one R.bool]
abbrev ZJK : Rs := Rs.one (Sh.one (R.int i64))
def ZNk (b : Bool) : RT (Int) :=
 .br (b) (.leaf (1)) (.leaf (0))
def rOne (b : Bool) : Int := (ZNk b).val
def ZHP : Entry := Zk ZJJ ZJK (fun _ => none) (fun a => rOne a)
theorem Zub : Zc Tryz.prog 267 ZHP :=
 pureQ 7 [] [] ZJJ ZJK trivial Tryz.func267 Tryz.call267 trivial (t := fun a => ZNk a) (fun a => by kernel_rfl)
abbrev ZrU : List Sh := [Sh.one (R.int u8)]
abbrev ZrV : Rs := Rs.one (Sh.one (R.int i64))
def ZiM (n : Int) : RT (Int) :=
 .leaf (i64.wrap (IntKind.i8.wrap n))
def Zda (n : Int) : Int := (ZiM n).val
def Zof : Entry := Zk ZrU ZrV (fun _ => none) (fun a => Zda a)
theorem ZmR : Zc Tryz.prog 309 Zof :=
 pureQ 7 [] [] ZrU ZrV trivial Tryz.func309 Tryz.call309 trivial (t := fun a => ZiM a) (fun a => by kernel_rfl)
abbrev ZJB : List Sh := [Sh.one (R.int u8), Sh.one (R.int u8), Sh.one R.bool]
abbrev ZJC : Rs := Rs.tup [Sh.one (R.int u8), Sh.one R.bool, Sh.one R.bool, Sh.one R.bool]
def ZHG (a : Int) (b : Int) (c : Bool) : RT (QT14) :=
 let x1 := decide (i64.wrap (i64.wrap (Zda a + Zda b) + rOne c) < -128)
 let x2 := i64.wrap (i64.wrap (i64.wrap a + i64.wrap b) + rOne c)
 let x3 := u8.wrap x2
 let x4 := decide (x2 > 255)
 let x5 := decide (i64.wrap (i64.wrap (i64.wrap (andI u8 a 15) + i64.wrap (andI u8 b 15)) + rOne c) > 15)
 .leaf ((bif x1 then x3 else x3, bif x1 then x4 else x4, bif x1 then x5 else x5, x1 || decide (i64.wrap (i64.wrap (Zda a + Zda b) + rOne c) > 127)))
def rSum (a : Int) (b : Int) (c : Bool) : QT14 := (ZHG a b c).val
def ZHH : Entry := Zk ZJB ZJC (fun _ => none) (fun a => rSum a.1 a.2.1 a.2.2)
theorem Zt0 : Zc Tryz.prog 260 ZHH :=
 pureQ 8191 [(267, ZHP), (309, Zof)] [] ZJB ZJC ⟨Zub, ZmR, trivial⟩ Tryz.func260 Tryz.call260 trivial (t := fun a => ZHG a.1 a.2.1 a.2.2) (fun a => by kernel_rfl)
abbrev ZD1 : List Sh := [Sh.one (R.int u8), Sh.one (R.int u8), Sh.one R.bool]
abbrev ZD2 : Rs := Rs.tup [Sh.one (R.int u8), Sh.one R.bool, Sh.one R.bool, Sh.one R.bool]
def Zx3 (a : Int) (b : Int) (c : Bool) : RT (QT14) :=
 let x1 := decide (i64.wrap (i64.wrap (Zda a - Zda b) - rOne c) < -128)
 let x2 := i64.wrap (i64.wrap (i64.wrap a - i64.wrap b) - rOne c)
 let x3 := u8.wrap x2
 let x4 := decide (x2 < 0)
 let x5 := decide (i64.wrap (i64.wrap (i64.wrap (i64.wrap (andI u8 a 15) + i64.wrap (u8.wrap (15 - andI u8 b 15))) + 1) - rOne c) > 15)
 .leaf ((bif x1 then x3 else x3, bif x1 then x4 else x4, bif x1 then x5 else x5, x1 || decide (i64.wrap (i64.wrap (Zda a - Zda b) - rOne c) > 127)))
def ZbS (a : Int) (b : Int) (c : Bool) : QT14 := (Zx3 a b c).val
def Zx4 : Entry := Zk ZD1 ZD2 (fun _ => none) (fun a => ZbS a.1 a.2.1 a.2.2)
theorem Zpa : Zc Tryz.prog 261 Zx4 :=
 pureQ 8191 [(267, ZHP), (309, Zof)] [] ZD1 ZD2 ⟨Zub, ZmR, trivial⟩ Tryz.func261 Tryz.call261 trivial (t := fun a => Zx3 a.1 a.2.1 a.2.2) (fun a => by kernel_rfl)
abbrev ZDH : List Sh := [Sh.one (R.int u8), Sh.one (R.int u8)]
abbrev ZDI : Rs := Rs.one (Sh.one (R.int u16))
def ZJQ (h : Int) (l : Int) : RT (Int) :=
 .leaf (orI u16 (shlI u16 (u16.wrap h) 8) (u16.wrap l))
def Zb3 (h : Int) (l : Int) : Int := (ZJQ h l).val
def Zkc : Entry := Zk ZDH ZDI (fun _ => none) (fun a => Zb3 a.1 a.2)
theorem Zgu : Zc Tryz.prog 172 Zkc :=
 pureQ 31 [] [] ZDH ZDI trivial Tryz.func172 Tryz.call172 trivial (t := fun a => ZJQ a.1 a.2) (fun a => by kernel_rfl)
abbrev ZJ3 : List Sh := [Sh.one R.bool, Sh.one (R.int i64)]
abbrev ZD4 : Rs := Rs.one (Sh.one (R.int u8))
def ZHV (b : Bool) (n : Int) : RT (Option (Int)) :=
 .br (!b || decide (0 ≤ n)) (.br (b) (.leaf (some (shlI u8 1 n))) (.leaf (some (0)))) (.leaf none)
def rBit (b : Bool) (n : Int) : Int := getO ZD4.dflt (ZHV b n).val
def ZcQ (b : Bool) (n : Int) : Bool := okB (ZHV b n).val
def ZHW : Entry := Zk ZJ3 ZD4 (fun a => some (ZcQ a.1 a.2)) (fun a => rBit a.1 a.2)
theorem Zu3 : Zc Tryz.prog 265 ZHW :=
 pureP 31 [] [] ZJ3 ZD4 trivial Tryz.func265 Tryz.call265 trivial (t := fun a => ZHV a.1 a.2) (fun a => by kernel_rfl)
abbrev ZDv : List Sh := [Sh.one (R.int i64), Sh.agg rcF7]
abbrev Zua : Rs := Rs.one (Sh.one (R.int u8))
def Zr4 (chip : Int) (f : TF) : RT (Option (Int)) :=
 let x1 := orI u8 (orI u8 (orI u8 (orI u8 (rBit f.1 7) (rBit f.2.1 6)) (rBit f.2.2.2.1 4)) (rBit f.2.2.2.2.1 2)) (rBit f.2.2.2.2.2.2 0)
 .br (!ZcQ f.1 7 || (!ZcQ f.2.1 6 || (!ZcQ f.2.2.2.1 4 || (!ZcQ f.2.2.2.2.1 2 || ZcQ f.2.2.2.2.2.2 0)))) (.br (!ZcQ f.1 7 || (!ZcQ f.2.1 6 || (!ZcQ f.2.2.2.1 4 || ZcQ f.2.2.2.2.1 2))) (.br (!ZcQ f.1 7 || (!ZcQ f.2.1 6 || ZcQ f.2.2.2.1 4)) (.br (!ZcQ f.1 7 || ZcQ f.2.1 6) (.br (ZcQ f.1 7) (.br (!rOn chip || (!ZcQ f.2.2.1 5 || ZcQ f.2.2.2.2.2.1 1)) (.br (!rOn chip || ZcQ f.2.2.1 5) (.br (rOn chip) (.leaf (some (orI u8 (orI u8 x1 (rBit f.2.2.1 5)) (rBit f.2.2.2.2.2.1 1)))) (.leaf (some (orI u8 x1 2)))) (.leaf none)) (.leaf none)) (.leaf none)) (.leaf none)) (.leaf none)) (.leaf none)) (.leaf none)
def ZHN (chip : Int) (f : TF) : Int := getO Zua.dflt (Zr4 chip f).val
def ZxS (chip : Int) (f : TF) : Bool := okB (Zr4 chip f).val
def ZJI : Entry := Zk ZDv Zua (fun a => some (ZxS a.1 a.2)) (fun a => ZHN a.1 a.2)
theorem ZHM : Zc Tryz.prog 221 ZJI :=
 pureP 63 [(146, rOnE), (265, ZHW)] [] ZDv Zua ⟨Zeu, Zu3, trivial⟩ Tryz.func221 Tryz.call221 trivial (t := fun a => Zr4 a.1 a.2) (fun a => by kernel_rfl)
abbrev ZrP : List Sh := [Sh.one (R.int i64), Sh.one (R.int u8)]
abbrev ZrQ : Rs := Rs.one (Sh.agg rcF7)
def Zoc (chip : Int) (b : Int) : RT TF :=
 .leaf ((andI u8 b 128 != 0, andI u8 b 64 != 0, rOn chip && andI u8 b 32 != 0, andI u8 b 16 != 0, andI u8 b 4 != 0, rOn chip && andI u8 b 2 != 0, andI u8 b 1 != 0))
def Zod (chip : Int) (b : Int) : TF := (Zoc chip b).val
def ZxJ : Entry := Zk ZrP ZrQ (fun _ => none) (fun a => Zod a.1 a.2)
theorem ZzL : Zc Tryz.prog 259 ZxJ :=
 pureQ 63 [(146, rOnE)] [] ZrP ZrQ ⟨Zeu, trivial⟩ Tryz.func259 Tryz.call259 trivial (t := fun a => Zoc a.1 a.2) (fun a => by kernel_rfl)
abbrev ZNo : List Sh := [Sh.one (R.int u8)]
abbrev ZNp : Rs := Rs.one (Sh.agg rcF7)
def rOfT (r : Int) : RT TF :=
 .leaf ((decide (r ≥ 128), r == 0, false, false, Zjy r, false, false))
def rOf (r : Int) : TF := (rOfT r).val
def rOfE : Entry := Zk ZNo ZNp (fun _ => none) (fun a => rOf a)
theorem ZxV : Zc Tryz.prog 262 rOfE :=
 pureQ 7 [(266, Zok)] [] ZNo ZNp ⟨ZmU, trivial⟩ Tryz.func262 Tryz.call262 trivial (t := fun a => rOfT a) (fun a => by kernel_rfl)
abbrev ZDz : List Sh := [Sh.one (R.int i64), Sh.agg rcF7, Sh.one R.bool, Sh.one R.bool]
abbrev ZDA : Rs := Rs.one (Sh.agg rcF7)
def ZmW (chip : Int) (f : TF) (k : Bool) (v : Bool) : RT TF :=
 .leaf ((f.1, f.2.1, rOn chip && bif rOn chip then k else k, f.2.2.2.1, f.2.2.2.2.1, bif rOn chip then rOn chip && v else rOn chip && v, f.2.2.2.2.2.2))
def Zmp (chip : Int) (f : TF) (k : Bool) (v : Bool) : TF := (ZmW chip f k v).val
def Zr5 : Entry := Zk ZDz ZDA (fun _ => none) (fun a => Zmp a.1 a.2.1 a.2.2.1 a.2.2.2)
theorem ZiP : Zc Tryz.prog 263 Zr5 :=
 pureQ 511 [(146, rOnE)] [] ZDz ZDA ⟨Zeu, trivial⟩ Tryz.func263 Tryz.call263 trivial (t := fun a => ZmW a.1 a.2.1 a.2.2.1 a.2.2.2) (fun a => by kernel_rfl)
abbrev ZDM : List Sh := [Sh.agg ZdS, Sh.one (R.int i64)]
abbrev Zx0 : Rs := Rs.one (Sh.one (R.int u8))
def ZuR (r : TR) (n : Int) : RT (Option (Int)) :=
 .br (decide (0 ≤ andI i64 n 7 ∧ andI i64 n 7 < 8)) (.leaf (some (bif andI i64 n 7 == 0 then r.2.1 else bif andI i64 n 7 == ↑(0 + 1) then r.2.2.1 else bif andI i64 n 7 == ↑(0 + 1 + 1) then r.2.2.2.1 else bif andI i64 n 7 == ↑(0 + 1 + 1 + 1) then r.2.2.2.2.1 else bif andI i64 n 7 == ↑(0 + 1 + 1 + 1 + 1) then r.2.2.2.2.2.1 else bif andI i64 n 7 == ↑(0 + 1 + 1 + 1 + 1 + 1) then r.2.2.2.2.2.2.1 else bif andI i64 n 7 == ↑(0 + 1 + 1 + 1 + 1 + 1 + 1) then 0 else r.1))) (.leaf none)
def rGet (r : TR) (n : Int) : Int := getO Zx0.dflt (ZuR r n).val
def ZuS (r : TR) (n : Int) : Bool := okB (ZuR r n).val
def ZNs : Entry := Zk ZDM Zx0 (fun a => some (ZuS a.1 a.2)) (fun a => rGet a.1 a.2)
theorem ZDL : Zc Tryz.prog 163 ZNs :=
 pureP 31 [] [] ZDM Zx0 trivial Tryz.func163 Tryz.call163 trivial (t := fun a => ZuR a.1 a.2) (fun a => by kernel_rfl)
abbrev ZJF : List Sh := [Sh.agg ZdS, Sh.one (R.int i64), Sh.one (R.int u8)]
abbrev ZJG : Rs := Rs.one (Sh.agg ZdS)
def ZLd (r : TR) (n : Int) (v : Int) : RT TR :=
 .leaf ((bif andI i64 n 7 == 0 then r.1 else bif andI i64 n 7 == 1 then r.1 else bif andI i64 n 7 == 2 then r.1 else bif andI i64 n 7 == 3 then r.1 else bif andI i64 n 7 == 4 then r.1 else bif andI i64 n 7 == 5 then r.1 else bif andI i64 n 7 == 7 then v else r.1, bif andI i64 n 7 == 0 then v else r.2.1, bif andI i64 n 7 == 0 then r.2.2.1 else bif andI i64 n 7 == 1 then v else r.2.2.1, bif andI i64 n 7 == 0 then r.2.2.2.1 else bif andI i64 n 7 == 1 then r.2.2.2.1 else bif andI i64 n 7 == 2 then v else r.2.2.2.1, bif andI i64 n 7 == 0 then r.2.2.2.2.1 else bif andI i64 n 7 == 1 then r.2.2.2.2.1 else bif andI i64 n 7 == 2 then r.2.2.2.2.1 else bif andI i64 n 7 == 3 then v else r.2.2.2.2.1, bif andI i64 n 7 == 0 then r.2.2.2.2.2.1 else bif andI i64 n 7 == 1 then r.2.2.2.2.2.1 else bif andI i64 n 7 == 2 then r.2.2.2.2.2.1 else bif andI i64 n 7 == 3 then r.2.2.2.2.2.1 else bif andI i64 n 7 == 4 then v else r.2.2.2.2.2.1, bif andI i64 n 7 == 0 then r.2.2.2.2.2.2.1 else bif andI i64 n 7 == 1 then r.2.2.2.2.2.2.1 else bif andI i64 n 7 == 2 then r.2.2.2.2.2.2.1 else bif andI i64 n 7 == 3 then r.2.2.2.2.2.2.1 else bif andI i64 n 7 == 4 then r.2.2.2.2.2.2.1 else bif andI i64 n 7 == 5 then v else r.2.2.2.2.2.2.1, r.2.2.2.2.2.2.2))
def rSet (r : TR) (n : Int) (v : Int) : TR := (ZLd r n v).val
def ZzN : Entry := Zk ZJF ZJG (fun _ => none) (fun a => rSet a.1 a.2.1 a.2.2)
theorem Zt2 : Zc Tryz.prog 205 ZzN :=
 pureQ 9162596991 [] [] ZJF ZJG trivial Tryz.func205 Tryz.call205 trivial (t := fun a => ZLd a.1 a.2.1 a.2.2) (fun a => by kernel_rfl)
abbrev Zt9 : List Sh := [Sh.agg ZdS, Sh.one (R.int i64)]
abbrev Zol : Rs := Rs.one (Sh.one (R.int u16))
def ZmV (r : TR) (n : Int) : RT (Option (Int)) :=
 .br (andI i64 n 3 == 3) (.leaf (some r.2.2.2.2.2.2.2.2.1)) (.br (!ZuS r (i64.wrap (2 * andI i64 n 3)) || ZuS r (i64.wrap (i64.wrap (2 * andI i64 n 3) + 1))) (.br (ZuS r (i64.wrap (2 * andI i64 n 3))) (.leaf (some (Zb3 (rGet r (i64.wrap (2 * andI i64 n 3))) (rGet r (i64.wrap (i64.wrap (2 * andI i64 n 3) + 1)))))) (.leaf none)) (.leaf none))
def Z7 (r : TR) (n : Int) : Int := getO Zol.dflt (ZmV r n).val
def ZDu (r : TR) (n : Int) : Bool := okB (ZmV r n).val
def ZNj : Entry := Zk Zt9 Zol (fun a => some (ZDu a.1 a.2)) (fun a => Z7 a.1 a.2)
theorem ZHL : Zc Tryz.prog 158 ZNj :=
 pureP 31 [(163, ZNs), (172, Zkc)] [] Zt9 Zol ⟨ZDL, Zgu, trivial⟩ Tryz.func158 Tryz.call158 trivial (t := fun a => ZmV a.1 a.2) (fun a => by kernel_rfl)
abbrev ZmS : List Sh := [Sh.agg ZdS, Sh.one (R.int i64), Sh.one (R.int u16)]
abbrev ZmT : Rs := Rs.one (Sh.agg ZdS)
def ZeP (r : TR) (n : Int) (v : Int) : RT TR :=
 .br (andI i64 n 3 == 3) (.leaf ((r.1, r.2.1, r.2.2.1, r.2.2.2.1, r.2.2.2.2.1, r.2.2.2.2.2.1, r.2.2.2.2.2.2.1, r.2.2.2.2.2.2.2.1, v, r.2.2.2.2.2.2.2.2.2))) (.leaf (rSet (rSet r (i64.wrap (2 * andI i64 n 3)) (u8.wrap (shrI u16 v 8))) (i64.wrap (i64.wrap (2 * andI i64 n 3) + 1)) (u8.wrap v)))
def Zp (r : TR) (n : Int) (v : Int) : TR := (ZeP r n v).val
def ZeQ : Entry := Zk ZmS ZmT (fun _ => none) (fun a => Zp a.1 a.2.1 a.2.2)
theorem Zjw : Zc Tryz.prog 206 ZeQ :=
 pureQ 127 [(205, ZzN)] [] ZmS ZmT ⟨Zt2, trivial⟩ Tryz.func206 Tryz.call206 trivial (t := fun a => ZeP a.1 a.2.1 a.2.2) (fun a => by kernel_rfl)
abbrev ZDw : List Sh := [Sh.one (R.int i64), Sh.agg ZdS]
abbrev ZxT : Rs := Rs.one (Sh.one (R.int u16))
def ZDx (chip : Int) (r : TR) : RT (Option (Int)) :=
 .br (ZxS chip r.2.2.2.2.2.2.2.1) (.leaf (some (Zb3 r.1 (ZHN chip r.2.2.2.2.2.2.2.1)))) (.leaf none)
def rPSW (chip : Int) (r : TR) : Int := getO ZxT.dflt (ZDx chip r).val
def ZLk (chip : Int) (r : TR) : Bool := okB (ZDx chip r).val
def rPSWE : Entry := Zk ZDw ZxT (fun a => some (ZLk a.1 a.2)) (fun a => rPSW a.1 a.2)
theorem ZLj : Zc Tryz.prog 171 rPSWE :=
 pureP 31 [(172, Zkc), (221, ZJI)] [] ZDw ZxT ⟨Zgu, ZHM, trivial⟩ Tryz.func171 Tryz.call171 trivial (t := fun a => ZDx a.1 a.2) (fun a => by kernel_rfl)
abbrev ZrW : List Sh := [Sh.one (R.int i64), Sh.agg ZdS, Sh.one (R.int u16)]
abbrev ZrX : Rs := Rs.one (Sh.agg ZdS)
def ZiN (chip : Int) (r : TR) (v : Int) : RT TR :=
 .leaf ((u8.wrap (shrI u16 v 8), r.2.1, r.2.2.1, r.2.2.2.1, r.2.2.2.2.1, r.2.2.2.2.2.1, r.2.2.2.2.2.2.1, Zod chip (u8.wrap v), r.2.2.2.2.2.2.2.2))
def ZeR (chip : Int) (r : TR) (v : Int) : TR := (ZiN chip r v).val
def Zog : Entry := Zk ZrW ZrX (fun _ => none) (fun a => ZeR a.1 a.2.1 a.2.2)
theorem ZzM : Zc Tryz.prog 207 Zog :=
 pureQ 127 [(259, ZxJ)] [] ZrW ZrX ⟨ZzL, trivial⟩ Tryz.func207 Tryz.call207 trivial (t := fun a => ZiN a.1 a.2.1 a.2.2) (fun a => by kernel_rfl)
abbrev ZNv : List Sh := [Sh.one (R.int i64), Sh.one (R.int i64), Sh.one (R.int u8), Sh.one (R.int u8), Sh.agg rcF7]
abbrev ZNw : Rs := Rs.tup [Sh.one (R.int u8), Sh.agg rcF7]
def rDoT (chip : Int) (op : Int) (a : Int) (b : Int) (f : TF) : RT (QT2) :=
 let x1 := bif andI i64 op 7 == 0 then andI i64 op 7 == 0 else andI i64 op 7 == 1
 let x2 := bif andI i64 op 7 == 2 then andI i64 op 7 == 2 else bif andI i64 op 7 == 3 then andI i64 op 7 == 3 else andI i64 op 7 == 7
 let x3 : Int := bif x1 then bif andI i64 op 7 == 1 then (rSum a b f.2.2.2.2.2.2).1 else (rSum a b false).1 else bif x2 then bif andI i64 op 7 == 3 then (ZbS a b f.2.2.2.2.2.2).1 else (ZbS a b false).1 else bif andI i64 op 7 == 4 then bif rOn chip then andI u8 a b else andI u8 a b else bif andI i64 op 7 == 5 then xorI u8 a b else bif andI i64 op 7 == 6 then orI u8 a b else 0
 let x4 := rOf x3
 let x5 := x4.2
 let x6 := x5.2
 let x7 := x6.2.2
 let x8 := Zmp chip (x4.1, x5.1, x6.1, bif x1 then bif andI i64 op 7 == 1 then (rSum a b f.2.2.2.2.2.2).2.2.1 else (rSum a b false).2.2.1 else bif x2 then bif andI i64 op 7 == 3 then (ZbS a b f.2.2.2.2.2.2).2.2.1 else (ZbS a b false).2.2.1 else andI i64 op 7 == 4 && (rOn chip || andI u8 (orI u8 a b) 8 != 0), x7.1, x7.2.1, bif x1 then bif andI i64 op 7 == 1 then (rSum a b f.2.2.2.2.2.2).2.1 else (rSum a b false).2.1 else x2 && bif andI i64 op 7 == 3 then (ZbS a b f.2.2.2.2.2.2).2.1 else (ZbS a b false).2.1) (rMaj (decide (a ≥ 128)) (bif x1 then decide (b ≥ 128) else bif x2 then !decide (b ≥ 128) else decide (b ≥ 128)) (decide (x3 ≥ 128))) (bif x1 then bif andI i64 op 7 == 1 then (rSum a b f.2.2.2.2.2.2).2.2.2 else (rSum a b false).2.2.2 else x2 && bif andI i64 op 7 == 3 then (ZbS a b f.2.2.2.2.2.2).2.2.2 else (ZbS a b false).2.2.2)
 .br (andI i64 op 7 == 7) (.leaf ((a, x8))) (.leaf ((x3, x8)))
def rDo (chip : Int) (op : Int) (a : Int) (b : Int) (f : TF) : QT2 := (rDoT chip op a b f).val
def rDoE : Entry := Zk ZNv ZNw (fun _ => none) (fun a => rDo a.1 a.2.1 a.2.2.1 a.2.2.2.1 a.2.2.2.2)
theorem ZNu : Zc Tryz.prog 208 rDoE :=
 pureQ 1246707057321695066193919 [(146, rOnE), (260, ZHH), (261, Zx4), (262, rOfE), (263, Zr5), (264, ZzY)] [] ZNv ZNw ⟨Zeu, Zt0, Zpa, ZxV, ZiP, Zkb, trivial⟩ Tryz.func208 Tryz.call208 trivial (t := fun a => rDoT a.1 a.2.1 a.2.2.1 a.2.2.2.1 a.2.2.2.2) (fun a => by kernel_rfl)
abbrev ZJT : List Sh := [Sh.one (R.int i64), Sh.one (R.int u8), Sh.agg rcF7]
abbrev ZJU : Rs := Rs.tup [Sh.one (R.int u8), Sh.agg rcF7]
def ZLp (chip : Int) (v : Int) (f : TF) : RT (QT2) :=
 .leaf (((rSum v 1 false).1, Zmp chip ((rOf (rSum v 1 false).1).1, (rOf (rSum v 1 false).1).2.1, (rOf (rSum v 1 false).1).2.2.1, (rSum v 1 false).2.2.1, (rOf (rSum v 1 false).1).2.2.2.2.1, (rOf (rSum v 1 false).1).2.2.2.2.2.1, f.2.2.2.2.2.2) (rMaj (decide (v ≥ 128)) false (decide ((rSum v 1 false).1 ≥ 128))) (rSum v 1 false).2.2.2))
def rInr (chip : Int) (v : Int) (f : TF) : QT2 := (ZLp chip v f).val
def ZNr : Entry := Zk ZJT ZJU (fun _ => none) (fun a => rInr a.1 a.2.1 a.2.2)
theorem ZLo : Zc Tryz.prog 218 ZNr :=
 pureQ 8191 [(260, ZHH), (262, rOfE), (263, Zr5), (264, ZzY)] [] ZJT ZJU ⟨Zt0, ZxV, ZiP, Zkb, trivial⟩ Tryz.func218 Tryz.call218 trivial (t := fun a => ZLp a.1 a.2.1 a.2.2) (fun a => by kernel_rfl)
abbrev ZJX : List Sh := [Sh.one (R.int i64), Sh.one (R.int u8), Sh.agg rcF7]
abbrev ZJY : Rs := Rs.tup [Sh.one (R.int u8), Sh.agg rcF7]
def ZLy (chip : Int) (v : Int) (f : TF) : RT (QT2) :=
 .leaf (((ZbS v 1 false).1, Zmp chip ((rOf (ZbS v 1 false).1).1, (rOf (ZbS v 1 false).1).2.1, (rOf (ZbS v 1 false).1).2.2.1, (ZbS v 1 false).2.2.1, (rOf (ZbS v 1 false).1).2.2.2.2.1, (rOf (ZbS v 1 false).1).2.2.2.2.2.1, f.2.2.2.2.2.2) (rMaj (decide (v ≥ 128)) true (decide ((ZbS v 1 false).1 ≥ 128))) (ZbS v 1 false).2.2.2))
def rDcr (chip : Int) (v : Int) (f : TF) : QT2 := (ZLy chip v f).val
def ZNx : Entry := Zk ZJX ZJY (fun _ => none) (fun a => rDcr a.1 a.2.1 a.2.2)
theorem ZLx : Zc Tryz.prog 219 ZNx :=
 pureQ 8191 [(261, Zx4), (262, rOfE), (263, Zr5), (264, ZzY)] [] ZJX ZJY ⟨Zpa, ZxV, ZiP, Zkb, trivial⟩ Tryz.func219 Tryz.call219 trivial (t := fun a => ZLy a.1 a.2.1 a.2.2) (fun a => by kernel_rfl)
abbrev ZJR : List Sh := [Sh.one (R.int i64), Sh.one (R.int u16), Sh.agg rcF7]
abbrev ZJS : Rs := Rs.tup [Sh.one (R.int u16), Sh.agg rcF7]
def ZLm (chip : Int) (v : Int) (f : TF) : RT (QT2) :=
 .leaf ((u16.wrap (v + 1), f.1, f.2.1, bif rOn chip then v == 65535 else f.2.2.1, f.2.2.2))
def rInx (chip : Int) (v : Int) (f : TF) : QT2 := (ZLm chip v f).val
def ZLn : Entry := Zk ZJR ZJS (fun _ => none) (fun a => rInx a.1 a.2.1 a.2.2)
theorem ZLl : Zc Tryz.prog 209 ZLn :=
 pureQ 255 [(146, rOnE)] [] ZJR ZJS ⟨Zeu, trivial⟩ Tryz.func209 Tryz.call209 trivial (t := fun a => ZLm a.1 a.2.1 a.2.2) (fun a => by kernel_rfl)
abbrev ZJV : List Sh := [Sh.one (R.int i64), Sh.one (R.int u16), Sh.agg rcF7]
abbrev ZJW : Rs := Rs.tup [Sh.one (R.int u16), Sh.agg rcF7]
def ZLv (chip : Int) (v : Int) (f : TF) : RT (QT2) :=
 .leaf ((u16.wrap (v - 1), f.1, f.2.1, bif rOn chip then v == 0 else f.2.2.1, f.2.2.2))
def rDcx (chip : Int) (v : Int) (f : TF) : QT2 := (ZLv chip v f).val
def ZLw : Entry := Zk ZJV ZJW (fun _ => none) (fun a => rDcx a.1 a.2.1 a.2.2)
theorem ZLu : Zc Tryz.prog 210 ZLw :=
 pureQ 255 [(146, rOnE)] [] ZJV ZJW ⟨Zeu, trivial⟩ Tryz.func210 Tryz.call210 trivial (t := fun a => ZLv a.1 a.2.1 a.2.2) (fun a => by kernel_rfl)
abbrev ZJZ : List Sh := [Sh.one (R.int i64), Sh.one (R.int u16), Sh.one (R.int u16), Sh.agg rcF7]
abbrev ZJ0 : Rs := Rs.tup [Sh.one (R.int u16), Sh.agg rcF7]
def ZLA (chip : Int) (a : Int) (b : Int) (f : TF) : RT (QT2) :=
 .leaf ((u16.wrap (a + b), f.1, f.2.1, f.2.2.1, f.2.2.2.1, f.2.2.2.2.1, bif rOn chip then decide (i64.wrap (i64.wrap (IntKind.i16.wrap a) + i64.wrap (IntKind.i16.wrap b)) < -32768) || decide (i64.wrap (i64.wrap (IntKind.i16.wrap a) + i64.wrap (IntKind.i16.wrap b)) > 32767) else f.2.2.2.2.2.1, decide (i64.wrap (i64.wrap a + i64.wrap b) > 65535)))
def rDad (chip : Int) (a : Int) (b : Int) (f : TF) : QT2 := (ZLA chip a b f).val
def ZLB : Entry := Zk ZJZ ZJ0 (fun _ => none) (fun a => rDad a.1 a.2.1 a.2.2.1 a.2.2.2)
theorem ZLz : Zc Tryz.prog 211 ZLB :=
 pureQ 2047 [(146, rOnE)] [] ZJZ ZJ0 ⟨Zeu, trivial⟩ Tryz.func211 Tryz.call211 trivial (t := fun a => ZLA a.1 a.2.1 a.2.2.1 a.2.2.2) (fun a => by kernel_rfl)
abbrev ZDX : List Sh := [Sh.one (R.int u16), Sh.one (R.int u16)]
abbrev ZDZ : Rs := Rs.tup [Sh.one (R.int u16), Sh.agg rcF7]
def ZDY (a : Int) (b : Int) : RT (QT2) :=
 let x1 := ZbS (u8.wrap (shrI u16 a 8)) (u8.wrap (shrI u16 b 8)) (ZbS (u8.wrap a) (u8.wrap b) false).2.1
 let x2 := x1.1
 let x3 := x2 == 0
 let x4 := Zb3 x2 (ZbS (u8.wrap a) (u8.wrap b) false).1
 let x5 := decide (x2 ≥ 128)
 let x6 := rMaj (decide (a ≥ 32768)) (decide (b < 32768)) x5
 let x7 := x1.2
 let x8 := x7.2
 let x9 := x8.1
 let x10 := Zjy x2
 let x11 := x8.2
 let x12 := x7.1
 .leaf ((bif x3 then x4 else x4, bif x3 then x5 else x5, x3 && (ZbS (u8.wrap a) (u8.wrap b) false).1 == 0, bif x3 then x6 else x6, bif x3 then x9 else x9, bif x3 then x10 else x10, bif x3 then x11 else x11, bif x3 then x12 else x12))
def Zr7 (a : Int) (b : Int) : QT2 := (ZDY a b).val
def ZD0 : Entry := Zk ZDX ZDZ (fun _ => none) (fun a => Zr7 a.1 a.2)
theorem ZHT : Zc Tryz.prog 214 ZD0 :=
 pureQ 16383 [(172, Zkc), (261, Zx4), (264, ZzY), (266, Zok)] [] ZDX ZDZ ⟨Zgu, Zpa, Zkb, ZmU, trivial⟩ Tryz.func214 Tryz.call214 trivial (t := fun a => ZDY a.1 a.2) (fun a => by kernel_rfl)
abbrev ZJ1 : List Sh := [Sh.one (R.int i64), Sh.one (R.int u8), Sh.agg rcF7]
abbrev ZJ2 : Rs := Rs.tup [Sh.one (R.int u8), Sh.agg rcF7]
def ZLD (chip : Int) (a : Int) (f : TF) : RT (QT2) :=
 let x1 : Int := bif f.2.2.2.1 || decide (andI u8 a 15 > 9) then 6 else 0
 let x2 := rSum a (bif f.2.2.2.2.2.2 || decide (a > 153) then u8.wrap (x1 + 96) else x1) false
 let x3 := x2.1
 let x4 := rOf x3
 let x5 := x4.2
 let x6 := x5.2
 let x7 := x2.2.2
 let x8 := x6.2.2
 .leaf ((x3, Zmp chip (x4.1, x5.1, x6.1, x7.1, x8.1, x8.2.1, f.2.2.2.2.2.2 || decide (a > 153)) (rMaj (decide (a ≥ 128)) false (decide (x3 ≥ 128))) x7.2))
def rDaa (chip : Int) (a : Int) (f : TF) : QT2 := (ZLD chip a f).val
def ZLE : Entry := Zk ZJ1 ZJ2 (fun _ => none) (fun a => rDaa a.1 a.2.1 a.2.2)
theorem ZLC : Zc Tryz.prog 212 ZLE :=
 pureQ 32767 [(260, ZHH), (262, rOfE), (263, Zr5), (264, ZzY)] [] ZJ1 ZJ2 ⟨Zt0, ZxV, ZiP, Zkb, trivial⟩ Tryz.func212 Tryz.call212 trivial (t := fun a => ZLD a.1 a.2.1 a.2.2) (fun a => by kernel_rfl)
abbrev ZDl : List Sh := [Sh.one (R.int i64), Sh.one (R.int u8), Sh.one R.bool]
abbrev ZxL : Rs := Rs.tup [Sh.one (R.int u8), Sh.one R.bool]
def ZDm (op : Int) (a : Int) (c : Bool) : RT (Option (Int × Bool)) :=
 .br (andI i64 op 3 == 0 || (andI i64 op 3 == 1 || (!andI i64 op 3 == 2 || ZcQ c 0))) (.br (andI i64 op 3 == 0) (.leaf (some ((orI u8 (shlI u8 a 1) (shrI u8 a 7), decide (a ≥ 128))))) (.br (andI i64 op 3 == 1) (.leaf (some ((orI u8 (shrI u8 a 1) (shlI u8 a 7), andI u8 a 1 == 1)))) (.br (andI i64 op 3 == 2) (.leaf (some ((orI u8 (shlI u8 a 1) (rBit c 0), decide (a ≥ 128))))) (.br (ZcQ c 7) (.leaf (some ((orI u8 (shrI u8 a 1) (rBit c 7), andI u8 a 1 == 1)))) (.leaf none))))) (.leaf none)
def rRot (op : Int) (a : Int) (c : Bool) : Int × Bool := getO ZxL.dflt (ZDm op a c).val
def ZLg (op : Int) (a : Int) (c : Bool) : Bool := okB (ZDm op a c).val
def rRotE : Entry := Zk ZDl ZxL (fun a => some (ZLg a.1 a.2.1 a.2.2)) (fun a => rRot a.1 a.2.1 a.2.2)
theorem ZLf : Zc Tryz.prog 213 rRotE :=
 pureP 537396479 [(265, ZHW)] [] ZDl ZxL ⟨Zu3, trivial⟩ Tryz.func213 Tryz.call213 trivial (t := fun a => ZDm a.1 a.2.1 a.2.2) (fun a => by kernel_rfl)
abbrev ZD7 : List Sh := [Sh.one (R.int u16)]
abbrev ZD8 : Rs := Rs.tup [Sh.one (R.int u16), Sh.one R.bool]
def ZJ4 (v : Int) : RT (Int × Bool) :=
 .leaf ((orI u16 (shrI u16 v 1) (andI u16 v 32768), andI u16 v 1 == 1))
def Zpc (v : Int) : Int × Bool := (ZJ4 v).val
def ZD9 : Entry := Zk ZD7 ZD8 (fun _ => none) (fun a => Zpc a)
theorem ZHX : Zc Tryz.prog 215 ZD9 :=
 pureQ 15 [] [] ZD7 ZD8 trivial Tryz.func215 Tryz.call215 trivial (t := fun a => ZJ4 a) (fun a => by kernel_rfl)
abbrev Zt7 : List Sh := [Sh.one (R.int u16), Sh.one R.bool]
abbrev Zoj : Rs := Rs.tup [Sh.one (R.int u16), Sh.one R.bool, Sh.one R.bool]
def Zr0 (v : Int) (c : Bool) : RT (Option (Int × Bool × Bool)) :=
 .br (ZcQ c 0) (.leaf (some ((orI u16 (shlI u16 v 1) (u16.wrap (rBit c 0)), decide (v ≥ 32768), andI u16 (orI u16 (shlI u16 v 1) (u16.wrap (rBit c 0))) 32768 != andI u16 v 32768)))) (.leaf none)
def Zr1 (v : Int) (c : Bool) : Int × Bool × Bool := getO Zoj.dflt (Zr0 v c).val
def ZDs (v : Int) (c : Bool) : Bool := okB (Zr0 v c).val
def ZNi : Entry := Zk Zt7 Zoj (fun a => some (ZDs a.1 a.2)) (fun a => Zr1 a.1 a.2)
theorem ZHK : Zc Tryz.prog 216 ZNi :=
 pureP 255 [(265, ZHW)] [] Zt7 Zoj ⟨Zu3, trivial⟩ Tryz.func216 Tryz.call216 trivial (t := fun a => Zr0 a.1 a.2) (fun a => by kernel_rfl)
abbrev Zx6 : List Sh := [Sh.one R.bool, Sh.one (R.int i64)]
abbrev Zpb : Rs := Rs.one (Sh.one (R.int u8))
def Zu4 (b : Bool) (n : Int) : RT (Option (Int)) :=
 .br (decide (0 ≤ n)) (.leaf (some (u8.wrap (shlI i64 (rOne b) n)))) (.leaf none)
def ZeT (b : Bool) (n : Int) : Int := getO Zpb.dflt (Zu4 b n).val
def Zaj (b : Bool) (n : Int) : Bool := okB (Zu4 b n).val
def ZD6 : Entry := Zk Zx6 Zpb (fun a => some (Zaj a.1 a.2)) (fun a => ZeT a.1 a.2)
theorem ZD5 : Zc Tryz.prog 217 ZD6 :=
 pureP 31 [(267, ZHP)] [] Zx6 Zpb ⟨Zub, trivial⟩ Tryz.func217 Tryz.call217 trivial (t := fun a => Zu4 a.1 a.2) (fun a => by kernel_rfl)
abbrev ZDo : List Sh := [Sh.agg Z3, Sh.agg (R.pair R.bool (R.pair R.bool rcF7))]
abbrev ZxM : Rs := Rs.tup [Sh.one (R.int u8), Sh.agg Z3]
def ZDp (c : TC) (l : QT0) : RT (Option (Int × TC)) :=
 let x1 := bif c.2.2.2.2.2.2.2.2.2.2.1 then c.2.2.2.2.2.2.2.2.2.2.2.1 else c.2.2.1
 .br (!Zaj l.2.2.2.1 7 || (!Zaj c.2.2.2.2.2.2.2.1 6 || (!Zaj l.2.2.2.2.2.2.1 5 || (!Zaj l.2.2.2.2.2.2.2.1 4 || Zaj x1 3)))) (.br (!Zaj l.2.2.2.1 7 || (!Zaj c.2.2.2.2.2.2.2.1 6 || (!Zaj l.2.2.2.2.2.2.1 5 || Zaj l.2.2.2.2.2.2.2.1 4))) (.br (!Zaj l.2.2.2.1 7 || (!Zaj c.2.2.2.2.2.2.2.1 6 || Zaj l.2.2.2.2.2.2.1 5)) (.br (!Zaj l.2.2.2.1 7 || Zaj c.2.2.2.2.2.2.2.1 6) (.br (Zaj l.2.2.2.1 7) (.leaf (some ((orI u8 (orI u8 (orI u8 (orI u8 (orI u8 (ZeT l.2.2.2.1 7) (ZeT c.2.2.2.2.2.2.2.1 6)) (ZeT l.2.2.2.2.2.2.1 5)) (ZeT l.2.2.2.2.2.2.2.1 4)) (ZeT x1 3)) (andI u8 c.2.2.2.2.2.1 7), c.1, c.2.1, c.2.2.1, c.2.2.2.1, c.2.2.2.2.1, c.2.2.2.2.2.1, c.2.2.2.2.2.2.1, c.2.2.2.2.2.2.2.1, c.2.2.2.2.2.2.2.2.1, c.2.2.2.2.2.2.2.2.2.1, false, false, c.2.2.2.2.2.2.2.2.2.2.2.2)))) (.leaf none)) (.leaf none)) (.leaf none)) (.leaf none)) (.leaf none)
def rRim (c : TC) (l : QT0) : Int × TC := getO ZxM.dflt (ZDp c l).val
def ZLi (c : TC) (l : QT0) : Bool := okB (ZDp c l).val
def rRimE : Entry := Zk ZDo ZxM (fun a => some (ZLi a.1 a.2)) (fun a => rRim a.1 a.2)
theorem ZLh : Zc Tryz.prog 159 rRimE :=
 pureP 255 [(217, ZD6)] [] ZDo ZxM ⟨ZD5, trivial⟩ Tryz.func159 Tryz.call159 trivial (t := fun a => ZDp a.1 a.2) (fun a => by kernel_rfl)
abbrev ZJD : List Sh := [Sh.agg Z3, Sh.one (R.int u8)]
abbrev ZJE : Rs := Rs.one (Sh.agg Z3)
def ZDh (c : TC) (a : Int) : RT TC :=
 .leaf ((c.1, c.2.1, c.2.2.1, c.2.2.2.1, c.2.2.2.2.1, bif andI u8 a 8 != 0 then andI u8 a 7 else c.2.2.2.2.2.1, c.2.2.2.2.2.2.1, !andI u8 a 16 != 0 && c.2.2.2.2.2.2.2.1, c.2.2.2.2.2.2.2.2.1, c.2.2.2.2.2.2.2.2.2.1, c.2.2.2.2.2.2.2.2.2.2.1, c.2.2.2.2.2.2.2.2.2.2.2.1, bif andI u8 a 64 != 0 then andI u8 a 128 != 0 else c.2.2.2.2.2.2.2.2.2.2.2.2))
def rSim (c : TC) (a : Int) : TC := (ZDh c a).val
def ZNh : Entry := Zk ZJD ZJE (fun _ => none) (fun a => rSim a.1 a.2)
theorem ZLc : Zc Tryz.prog 160 ZNh :=
 pureQ 31 [] [] ZJD ZJE trivial Tryz.func160 Tryz.call160 trivial (t := fun a => ZDh a.1 a.2) (fun a => by kernel_rfl)
abbrev ZxY : List Sh := [Sh.one (R.int i64), Sh.agg rcF7]
abbrev ZxZ : Rs := Rs.one (Sh.one R.bool)
def ZuQ (c : Int) (f : TF) : RT (Bool) :=
 .br (c == 0) (.leaf (!f.2.1)) (.br (c == 1) (.leaf f.2.1) (.br (c == 2) (.leaf (!f.2.2.2.2.2.2)) (.br (c == 3) (.leaf f.2.2.2.2.2.2) (.br (c == 4) (.leaf (!f.2.2.2.2.1)) (.br (c == 5) (.leaf f.2.2.2.2.1) (.br (c == 6) (.leaf (!f.1)) (.br (c == 7) (.leaf f.1) (.br (c == 8) (.leaf (!f.2.2.1)) (.br (c == 9) (.leaf f.2.2.1) (.br (c == 10) (.leaf f.2.2.2.2.2.1) (.leaf (c == 11))))))))))))
def Zdu (c : Int) (f : TF) : Bool := (ZuQ c f).val
def ZDK : Entry := Zk ZxY ZxZ (fun _ => none) (fun a => Zdu a.1 a.2)
theorem ZDJ : Zc Tryz.prog 220 ZDK :=
 pureQ 2397219371124831 [] [] ZxY ZxZ trivial Tryz.func220 Tryz.call220 trivial (t := fun a => ZuQ a.1 a.2) (fun a => by kernel_rfl)
abbrev ZrN : List Sh := [Sh.one (R.int i64)]
abbrev ZrO : Rs := Rs.one (Sh.one (R.int u16))
def Zob (s : Int) : RT (Int) :=
 .br (s == 1) (.leaf (36)) (.br (s == 2) (.leaf (60)) (.br (s == 3) (.leaf (52)) (.br (s == 4) (.leaf (44)) (.leaf (0)))))
def Zh (s : Int) : Int := (Zob s).val
def ZxI : Entry := Zk ZrN ZrO (fun _ => none) (fun a => Zh a)
theorem ZzK : Zc Tryz.prog 152 ZxI :=
 pureQ 1367 [] [] ZrN ZrO trivial Tryz.func152 Tryz.call152 trivial (t := fun a => Zob a) (fun a => by kernel_rfl)
abbrev Zkd : List Sh := [Sh.one (R.int i64)]
abbrev Zke : Rs := Rs.one (Sh.one R.bool)
def ZmX (s : Int) : RT (Bool) :=
 .leaf (decide (s ≥ 1) && decide (s ≤ 4))
def Zb (s : Int) : Bool := (ZmX s).val
def Zht : Entry := Zk Zkd Zke (fun _ => none) (fun a => Zb a)
theorem Zic : Zc Tryz.prog 104 Zht :=
 pureQ 7 [] [] Zkd Zke trivial Tryz.func104 Tryz.call104 trivial (t := fun a => ZmX a) (fun a => by kernel_rfl)
abbrev ZmP : List Sh := [Sh.one (R.int u8)]
abbrev ZmQ : Rs := Rs.tup [Sh.agg (R.pair (R.int i64) (R.pair (R.int i64) (R.pair (R.int i64) (R.pair (R.int i64) (R.pair (R.int i64) (R.pair (R.int i64) (R.pair (R.int i64) (R.int i64)))))))), Sh.one R.bool]
def ZrS (op : Int) : RT (TI × Bool) :=
 .br (op == 8) (.leaf (((40, 1, 0, 0, 0, 0, 0, 0), true))) (.br (op == 16) (.leaf (((41, 1, 0, 0, 0, 0, 0, 0), true))) (.br (op == 24) (.leaf (((42, 1, 0, 0, 0, 0, 0, 0), true))) (.br (op == 32) (.leaf (((38, 1, 0, 0, 0, 0, 0, 0), true))) (.br (op == 40) (.leaf (((43, 2, 0, 0, 0, 0, 0, 0), true))) (.br (op == 48) (.leaf (((39, 1, 0, 0, 0, 0, 0, 0), true))) (.br (op == 56) (.leaf (((44, 2, 0, 0, 0, 0, 0, 0), true))) (.br (op == 203) (.leaf (((45, 1, 0, 0, 0, 0, 10, 0), true))) (.br (op == 217) (.leaf (((46, 1, 0, 0, 0, 0, 0, 0), true))) (.br (op == 221) (.leaf (((24, 3, 0, 0, 0, 0, 8, 0), true))) (.br (op == 237) (.leaf (((47, 1, 0, 0, 0, 0, 0, 0), true))) (.br (op == 253) (.leaf (((24, 3, 0, 0, 0, 0, 9, 0), true))) (.leaf (((0, 0, 0, 0, 0, 0, 0, 0), false))))))))))))))
def Zoe (op : Int) : TI × Bool := (ZrS op).val
def ZrT : Entry := Zk ZmP ZmQ (fun _ => none) (fun a => Zoe a)
theorem Zt1 : Zc Tryz.prog 173 ZrT :=
 pureQ 314146179375 [] [] ZmP ZmQ trivial Tryz.func173 Tryz.call173 trivial (t := fun a => ZrS a) (fun a => by kernel_rfl)
abbrev ZDB : List Sh := [Sh.one (R.int i64), Sh.one (R.int i64), Sh.one (R.int i64), Sh.one (R.int i64)]
abbrev Zuc : Rs := Rs.one (Sh.agg (R.pair (R.int i64) (R.pair (R.int i64) (R.pair (R.int i64) (R.pair (R.int i64) (R.pair (R.int i64) (R.pair (R.int i64) (R.pair (R.int i64) (R.int i64)))))))))
def ZDC (y : Int) (z : Int) (p : Int) (q : Int) : RT (Option TI) :=
 let x1 := decide (0 ≤ i64.wrap (y - 4) ∧ i64.wrap (y - 4) < 4)
 .br (z == 0) (.leaf (some ((1, 1, 0, 0, 0, 0, 0, 0)))) (.br (z == 1) (.br (q == 0) (.leaf (some ((4, 3, 0, 0, p, 0, 0, 0)))) (.leaf (some ((18, 1, 0, 0, p, 0, 0, 0))))) (.br (!z == 2 || ((bif y == 0 then y == 0 else y == 2) || ((bif y == 1 then y == 1 else y == 3) || x1))) (.br (z == 2) (.br (bif y == 0 then y == 0 else y == 2) (.leaf (some ((10, 1, 0, 0, p, 0, 0, 0)))) (.br (bif y == 1 then y == 1 else y == 3) (.leaf (some ((9, 1, 0, 0, p, 0, 0, 0)))) (.leaf (some ((bif i64.wrap (y - 4) == 0 then 8 else bif i64.wrap (y - 4) == ↑(0 + 1) then 7 else bif i64.wrap (y - 4) == ↑(0 + 1 + 1) then 6 else 5, 3, 0, 0, 0, 0, 0, 0)))))) (.br (!z == 3 || decide (0 ≤ q ∧ q < 2)) (.br (z == 3) (.leaf (some ((bif q == 0 then 16 else 17, 1, 0, 0, p, 0, 0, 0)))) (.br (z == 4) (.leaf (some ((14, 1, y, 0, 0, 0, 0, 0)))) (.br (z == 5) (.leaf (some ((15, 1, y, 0, 0, 0, 0, 0)))) (.br (z == 6) (.leaf (some ((3, 2, y, 0, 0, 0, 0, 0)))) (.br (decide (y < 4)) (.leaf (some ((23, 1, 0, 0, 0, y, 0, 0)))) (.br (x1) (.leaf (some ((bif i64.wrap (y - 4) == 0 then 19 else bif i64.wrap (y - 4) == ↑(0 + 1) then 20 else bif i64.wrap (y - 4) == ↑(0 + 1 + 1) then 21 else 22, 1, 0, 0, 0, 0, 0, 0)))) (.leaf none))))))) (.leaf none))) (.leaf none)))
def ZNn (y : Int) (z : Int) (p : Int) (q : Int) : QT4 := getO Zuc.dflt (ZDC y z p q).val
def ZJM (y : Int) (z : Int) (p : Int) (q : Int) : Bool := okB (ZDC y z p q).val
def ZJL : Entry := Zk ZDB Zuc (fun a => some (ZJM a.1 a.2.1 a.2.2.1 a.2.2.2)) (fun a => ZNn a.1 a.2.1 a.2.2.1 a.2.2.2)
theorem ZHQ : Zc Tryz.prog 174 ZJL :=
 pureP 19211217472071167 [] [] ZDB Zuc trivial Tryz.func174 Tryz.call174 trivial (t := fun a => ZDC a.1 a.2.1 a.2.2.1 a.2.2.2) (fun a => by kernel_rfl)
abbrev ZxU : List Sh := [Sh.one (R.int i64), Sh.one (R.int i64), Sh.one (R.int i64), Sh.one (R.int i64)]
abbrev Zom : Rs := Rs.one (Sh.agg (R.pair (R.int i64) (R.pair (R.int i64) (R.pair (R.int i64) (R.pair (R.int i64) (R.pair (R.int i64) (R.pair (R.int i64) (R.pair (R.int i64) (R.int i64)))))))))
def Zud (y : Int) (z : Int) (p : Int) (q : Int) : RT (Option TI) :=
 .br (z == 0) (.leaf (some ((26, 1, 0, 0, 0, 0, y, 0)))) (.br (z == 1) (.br (q == 0) (.leaf (some ((31, 1, 0, 0, p, 0, 0, 0)))) (.br (y == 5) (.leaf (some ((28, 1, 0, 0, 0, 0, 0, 0)))) (.br (y == 7) (.leaf (some ((29, 1, 0, 0, 0, 0, 0, 0)))) (.leaf (some ((26, 1, 0, 0, 0, 0, 11, 0))))))) (.br (z == 2 || (!z == 3 || ((bif y == 0 then y == 0 else y == 1) || (y == 2 || (y == 3 || decide (0 ≤ i64.wrap (y - 4) ∧ i64.wrap (y - 4) < 4)))))) (.br (z == 2) (.leaf (some ((24, 3, 0, 0, 0, 0, y, 0)))) (.br (z == 3) (.br (bif y == 0 then y == 0 else y == 1) (.leaf (some ((24, 3, 0, 0, 0, 0, 11, 0)))) (.br (y == 2) (.leaf (some ((34, 2, 0, 0, 0, 0, 0, 0)))) (.br (y == 3) (.leaf (some ((33, 2, 0, 0, 0, 0, 0, 0)))) (.leaf (some ((bif i64.wrap (y - 4) == 0 then 32 else bif i64.wrap (y - 4) == ↑(0 + 1) then 11 else bif i64.wrap (y - 4) == ↑(0 + 1 + 1) then 36 else 35, 1, 0, 0, 0, 0, 0, 0))))))) (.br (z == 4) (.leaf (some ((25, 3, 0, 0, 0, 0, y, 0)))) (.br (z == 5) (.br (q == 0) (.leaf (some ((30, 1, 0, 0, p, 0, 0, 0)))) (.leaf (some ((25, 3, 0, 0, 0, 0, 11, 0))))) (.br (z == 6) (.leaf (some ((13, 2, 0, 0, 0, y, 0, 0)))) (.leaf (some ((27, 1, 0, 0, 0, 0, 0, y))))))))) (.leaf none)))
def ZJN (y : Int) (z : Int) (p : Int) (q : Int) : QT4 := getO Zom.dflt (Zud y z p q).val
def ZDF (y : Int) (z : Int) (p : Int) (q : Int) : Bool := okB (Zud y z p q).val
def ZDE : Entry := Zk ZxU Zom (fun a => some (ZDF a.1 a.2.1 a.2.2.1 a.2.2.2)) (fun a => ZJN a.1 a.2.1 a.2.2.1 a.2.2.2)
theorem ZDD : Zc Tryz.prog 175 ZDE :=
 pureP 2324988294374376959 [] [] ZxU Zom trivial Tryz.func175 Tryz.call175 trivial (t := fun a => Zud a.1 a.2.1 a.2.2.1 a.2.2.2) (fun a => by kernel_rfl)
abbrev Zgw : List Sh := [Sh.one (R.int i64), Sh.one (R.int u8)]
abbrev Zgx : Rs := Rs.one (Sh.agg (R.pair (R.int i64) (R.pair (R.int i64) (R.pair (R.int i64) (R.pair (R.int i64) (R.pair (R.int i64) (R.pair (R.int i64) (R.pair (R.int i64) (R.int i64)))))))))
def Zeb (chip : Int) (op : Int) : RT (Option TI) :=
 .br ((Zoe op).2 && rOn chip) (.leaf (some (Zoe op).1)) (.br (!shrI u8 op 6 == 0 || ZJM (i64.wrap (andI u8 (shrI u8 op 3) 7)) (i64.wrap (andI u8 op 7)) (shrI i64 (i64.wrap (andI u8 (shrI u8 op 3) 7)) 1) (andI i64 (i64.wrap (andI u8 (shrI u8 op 3) 7)) 1)) (.br (shrI u8 op 6 == 0) (.leaf (some (ZNn (i64.wrap (andI u8 (shrI u8 op 3) 7)) (i64.wrap (andI u8 op 7)) (shrI i64 (i64.wrap (andI u8 (shrI u8 op 3) 7)) 1) (andI i64 (i64.wrap (andI u8 (shrI u8 op 3) 7)) 1)))) (.br (shrI u8 op 6 == 1) (.br (op == 118) (.leaf (some ((37, 1, 0, 0, 0, 0, 0, 0)))) (.leaf (some ((2, 1, i64.wrap (andI u8 (shrI u8 op 3) 7), i64.wrap (andI u8 op 7), 0, 0, 0, 0))))) (.br (shrI u8 op 6 == 2) (.leaf (some ((12, 1, 0, i64.wrap (andI u8 op 7), 0, i64.wrap (andI u8 (shrI u8 op 3) 7), 0, 0)))) (.br (ZDF (i64.wrap (andI u8 (shrI u8 op 3) 7)) (i64.wrap (andI u8 op 7)) (shrI i64 (i64.wrap (andI u8 (shrI u8 op 3) 7)) 1) (andI i64 (i64.wrap (andI u8 (shrI u8 op 3) 7)) 1)) (.leaf (some (ZJN (i64.wrap (andI u8 (shrI u8 op 3) 7)) (i64.wrap (andI u8 op 7)) (shrI i64 (i64.wrap (andI u8 (shrI u8 op 3) 7)) 1) (andI i64 (i64.wrap (andI u8 (shrI u8 op 3) 7)) 1)))) (.leaf none))))) (.leaf none))
def Za (chip : Int) (op : Int) : QT4 := getO Zgx.dflt (Zeb chip op).val
def ZiQ (chip : Int) (op : Int) : Bool := okB (Zeb chip op).val
def ZHU : Entry := Zk Zgw Zgx (fun a => some (ZiQ a.1 a.2)) (fun a => Za a.1 a.2)
theorem ZAB : Zc Tryz.prog 107 ZHU :=
 pureP 70644158956031 [(146, rOnE), (173, ZrT), (174, ZJL), (175, ZDE)] [] Zgw Zgx ⟨Zeu, Zt1, ZHQ, ZDD, trivial⟩ Tryz.func107 Tryz.call107 trivial (t := fun a => Zeb a.1 a.2) (fun a => by kernel_rfl)
end
end Go.Proofs.YtghoimllhpjkjaaGreat
