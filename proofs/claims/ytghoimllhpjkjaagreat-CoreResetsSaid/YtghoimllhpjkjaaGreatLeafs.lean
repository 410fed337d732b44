/-
  Contracts of functions; each found by the symbolic executor and checked by the kernel. Conditions: none.
-/
import Derived.Test.YtghoimllhpjkjaaGreatS3D
import Derived.Test.YtghoimllhpjkjaaGreatProg
open Go.IntKind (u8 u16 i64)
set_option linter.unusedSimpArgs false
open Go Go.S3 Go.Proofs
set_option linter.unusedVariables false
set_option maxRecDepth 100000
namespace Go.Proofs.YtghoimllhpjkjaaGreat
noncomputable section
abbrev ZvP : List Sh := [Sh.one (R.int u8)]
abbrev Zmi : Rs := Rs.one (Sh.one R.bool)
def Zr7 (b : Int) : RT (Option (Bool)) :=
 let x1 := andI u8 (andI u8 b (u8.wrap (b - 1))) (u8.wrap (andI u8 b (u8.wrap (b - 1)) - 1))
 let x2 := !x1 != 0
 let x3 := andI u8 x1 (u8.wrap (x1 - 1))
 let x4 := x3 != 0
 let x5 := andI u8 x3 (u8.wrap (x3 - 1))
 let x6 := !x5 != 0
 let x7 := andI u8 x5 (u8.wrap (x5 - 1))
 let x8 := x7 != 0
 let x9 := andI u8 x7 (u8.wrap (x7 - 1))
 let x10 := !x9 != 0
 let x11 := andI u8 x9 (u8.wrap (x9 - 1))
 let x12 := x11 != 0
 let x13 := andI u8 x11 (u8.wrap (x11 - 1))
 let x14 := !x13 != 0
 .br (!b != 0 || (!andI u8 b (u8.wrap (b - 1)) != 0 || (x2 || (!x4 || (x6 || (!x8 || (x10 || (!x12 || (x14 || !andI u8 x13 (u8.wrap (x13 - 1)) != 0))))))))) (.leaf (some (!b != 0 || andI u8 b (u8.wrap (b - 1)) != 0 && (x2 || x4 && (x6 || x8 && (x10 || x12 && x14)))))) (.leaf none)
def Zr8 (b : Int) : Bool := getO Zmi.dflt (Zr7 b).val
def Zki (b : Int) : Bool := okB (Zr7 b).val
def ZDx : Entry := Zf ZvP Zmi (fun a => some (Zki a)) (fun a => Zr8 a)
theorem ZGh : Zc Tryz.prog 334 ZDx :=
 Zvw (P := Tryz.prog) (n := 15) (k := 10) (l := []) (ol := []) trivial Tryz.func334 rfl (by kernel_rfl) Tryz.call334 trivial (ts := ZvP) (rs := Zmi) (t := fun a => Zr7 a) (fun a => by kernel_rfl)
abbrev ZRY : List Sh := [Sh.one R.bool, Sh.one R.bool, Sh.one R.bool]
abbrev ZRZ : Rs := Rs.one (Sh.one R.bool)
def ZVt (a : Bool) (b : Bool) (c : Bool) : RT (Bool) :=
 .leaf (bif a then b || bif a then c || b && c else b && c else bif a then c || b && c else b && c)
def pMaj (a : Bool) (b : Bool) (c : Bool) : Bool := (ZVt a b c).val
def ZGr : Entry := Zf ZRY ZRZ (fun _ => none) (fun a => pMaj a.1 a.2.1 a.2.2)
theorem ZmV : Zc Tryz.prog 315 ZGr :=
 pureQ 127 [] [] ZRY ZRZ trivial Tryz.func315 Tryz.call315 trivial (t := fun a => ZVt a.1 a.2.1 a.2.2) (fun a => by kernel_rfl)
abbrev ZRU : List Sh := [Sh.one R.bool]
abbrev ZRV : Rs := Rs.one (Sh.one (R.int i64))
def ZVr (b : Bool) : RT (Int) :=
 .br (b) (.leaf (1)) (.leaf (0))
def pOne (b : Bool) : Int := (ZVr b).val
def ZTJ : Entry := Zf ZRU ZRV (fun _ => none) (fun a => pOne a)
theorem ZLF : Zc Tryz.prog 332 ZTJ :=
 pureQ 7 [] [] ZRU ZRV trivial Tryz.func332 Tryz.call332 trivial (t := fun a => ZVr a) (fun a => by kernel_rfl)
abbrev ZvH : List Sh := [Sh.one (R.int i64)]
abbrev ZvI : Rs := Rs.one (Sh.one R.bool)
def Zkg (n : Int) : RT (Bool) :=
 .leaf (decide (n < -128) || decide (n > 127))
def Zmb (n : Int) : Bool := (Zkg n).val
def ZrW : Entry := Zf ZvH ZvI (fun _ => none) (fun a => Zmb a)
theorem Zpj : Zc Tryz.prog 333 ZrW :=
 pureQ 7 [] [] ZvH ZvI trivial Tryz.func333 Tryz.call333 trivial (t := fun a => Zkg a) (fun a => by kernel_rfl)
abbrev ZRP : List Sh := [Sh.one (R.int u8), Sh.one (R.int u8), Sh.one R.bool]
abbrev ZRQ : Rs := Rs.tup [Sh.one (R.int u8), Sh.one R.bool, Sh.one R.bool, Sh.one R.bool]
def ZTu (a : Int) (b : Int) (c : Bool) : RT (QT17) :=
 let x1 := i64.wrap (i64.wrap (i64.wrap a + i64.wrap b) + pOne c)
 .leaf ((u8.wrap x1, decide (x1 > 255), decide (i64.wrap (i64.wrap (i64.wrap (andI u8 a 15) + i64.wrap (andI u8 b 15)) + pOne c) > 15), Zmb (i64.wrap (i64.wrap (i64.wrap (IntKind.i8.wrap a) + i64.wrap (IntKind.i8.wrap b)) + pOne c))))
def pSum (a : Int) (b : Int) (c : Bool) : QT17 := (ZTu a b c).val
def ZPB : Entry := Zf ZRP ZRQ (fun _ => none) (fun a => pSum a.1 a.2.1 a.2.2)
theorem Zzj : Zc Tryz.prog 312 ZPB :=
 pureQ 4095 [(332, ZTJ), (333, ZrW)] [] ZRP ZRQ ⟨ZLF, Zpj, trivial⟩ Tryz.func312 Tryz.call312 trivial (t := fun a => ZTu a.1 a.2.1 a.2.2) (fun a => by kernel_rfl)
abbrev ZMm : List Sh := [Sh.one (R.int u8), Sh.one (R.int u8), Sh.one R.bool]
abbrev ZMo : Rs := Rs.tup [Sh.one (R.int u8), Sh.one R.bool, Sh.one R.bool, Sh.one R.bool]
def ZMn (a : Int) (b : Int) (c : Bool) : RT (QT17) :=
 let x1 := i64.wrap (i64.wrap (i64.wrap a - i64.wrap b) - pOne c)
 .leaf ((u8.wrap x1, decide (x1 < 0), decide (i64.wrap (i64.wrap (i64.wrap (i64.wrap (i64.wrap (andI u8 a 15) + 15) - i64.wrap (andI u8 b 15)) + 1) - pOne c) > 15), Zmb (i64.wrap (i64.wrap (i64.wrap (IntKind.i8.wrap a) - i64.wrap (IntKind.i8.wrap b)) - pOne c))))
def Zg4 (a : Int) (b : Int) (c : Bool) : QT17 := (ZMn a b c).val
def ZDP : Entry := Zf ZMm ZMo (fun _ => none) (fun a => Zg4 a.1 a.2.1 a.2.2)
theorem Zs7 : Zc Tryz.prog 313 ZDP :=
 pureQ 4095 [(332, ZTJ), (333, ZrW)] [] ZMm ZMo ⟨ZLF, Zpj, trivial⟩ Tryz.func313 Tryz.call313 trivial (t := fun a => ZMn a.1 a.2.1 a.2.2) (fun a => by kernel_rfl)
abbrev ZAk : List Sh := [Sh.one (R.int u8), Sh.one (R.int u8)]
abbrev ZAl : Rs := Rs.one (Sh.one (R.int u16))
def ZR2 (h : Int) (l : Int) : RT (Int) :=
 .leaf (orI u16 (shlI u16 (u16.wrap h) 8) (u16.wrap l))
def ZLX (h : Int) (l : Int) : Int := (ZR2 h l).val
def ZDG : Entry := Zf ZAk ZAl (fun _ => none) (fun a => ZLX a.1 a.2)
theorem Zkj : Zc Tryz.prog 236 ZDG :=
 pureQ 31 [] [] ZAk ZAl trivial Tryz.func236 Tryz.call236 trivial (t := fun a => ZR2 a.1 a.2) (fun a => by kernel_rfl)
abbrev ZR6 : List Sh := [Sh.one R.bool, Sh.one (R.int i64)]
abbrev ZMD : Rs := Rs.one (Sh.one (R.int u8))
def ZP8 (b : Bool) (n : Int) : RT (Option (Int)) :=
 .br (!b || decide (0 ≤ n)) (.br (b) (.leaf (some (shlI u8 1 n))) (.leaf (some (0)))) (.leaf none)
def pBit (b : Bool) (n : Int) : Int := getO ZMD.dflt (ZP8 b n).val
def Zeg (b : Bool) (n : Int) : Bool := okB (ZP8 b n).val
def ZVy : Entry := Zf ZR6 ZMD (fun a => some (Zeg a.1 a.2)) (fun a => pBit a.1 a.2)
theorem ZUc : Zc Tryz.prog 335 ZVy :=
 pureP 31 [] [] ZR6 ZMD trivial Tryz.func335 Tryz.call335 trivial (t := fun a => ZP8 a.1 a.2) (fun a => by kernel_rfl)
abbrev ZLC : List Sh := [Sh.one (R.int i64), Sh.agg rcF7]
abbrev ZzA : Rs := Rs.one (Sh.one (R.int u8))
def ZvQ (chip : Int) (f : TF) : RT (Option (Int)) :=
 let x1 := orI u8 (orI u8 (orI u8 (orI u8 (pBit f.1 7) (pBit f.2.1 6)) (pBit f.2.2.2.1 4)) (pBit f.2.2.2.2.1 2)) (pBit f.2.2.2.2.2.2 0)
 .br (!Zeg f.1 7 || (!Zeg f.2.1 6 || (!Zeg f.2.2.2.1 4 || (!Zeg f.2.2.2.2.1 2 || Zeg f.2.2.2.2.2.2 0)))) (.br (!Zeg f.1 7 || (!Zeg f.2.1 6 || (!Zeg f.2.2.2.1 4 || Zeg f.2.2.2.2.1 2))) (.br (!Zeg f.1 7 || (!Zeg f.2.1 6 || Zeg f.2.2.2.1 4)) (.br (!Zeg f.1 7 || Zeg f.2.1 6) (.br (Zeg f.1 7) (.br (!chip == 2 || (!Zeg f.2.2.1 5 || Zeg f.2.2.2.2.2.1 1)) (.br (!chip == 2 || Zeg f.2.2.1 5) (.br (chip == 2) (.leaf (some (orI u8 (orI u8 x1 (pBit f.2.2.1 5)) (pBit f.2.2.2.2.2.1 1)))) (.leaf (some (orI u8 x1 2)))) (.leaf none)) (.leaf none)) (.leaf none)) (.leaf none)) (.leaf none)) (.leaf none)) (.leaf none)
def ZPP (chip : Int) (f : TF) : Int := getO ZzA.dflt (ZvQ chip f).val
def ZDy (chip : Int) (f : TF) : Bool := okB (ZvQ chip f).val
def ZRT : Entry := Zf ZLC ZzA (fun a => some (ZDy a.1 a.2)) (fun a => ZPP a.1 a.2)
theorem ZPO : Zc Tryz.prog 324 ZRT :=
 pureP 63 [(335, ZVy)] [] ZLC ZzA ⟨ZUc, trivial⟩ Tryz.func324 Tryz.call324 trivial (t := fun a => ZvQ a.1 a.2) (fun a => by kernel_rfl)
abbrev ZvE : List Sh := [Sh.one (R.int i64), Sh.one (R.int u8)]
abbrev ZvF : Rs := Rs.one (Sh.agg rcF7)
def ZrT (chip : Int) (b : Int) : RT TF :=
 .leaf ((andI u8 b 128 != 0, andI u8 b 64 != 0, chip == 2 && andI u8 b 32 != 0, andI u8 b 16 != 0, andI u8 b 4 != 0, chip == 2 && andI u8 b 2 != 0, andI u8 b 1 != 0))
def ZrU (chip : Int) (b : Int) : TF := (ZrT chip b).val
def ZDo : Entry := Zf ZvE ZvF (fun _ => none) (fun a => ZrU a.1 a.2)
theorem ZGe : Zc Tryz.prog 323 ZDo :=
 pureQ 63 [] [] ZvE ZvF trivial Tryz.func323 Tryz.call323 trivial (t := fun a => ZrT a.1 a.2) (fun a => by kernel_rfl)
abbrev ZVs : List Sh := [Sh.one (R.int u8)]
abbrev ZTL : Rs := Rs.one (Sh.agg rcF7)
def pOfT (r : Int) : RT (Option TF) :=
 .br (Zki r) (.leaf (some ((decide (r ≥ 128), r == 0, false, false, Zr8 r, false, false)))) (.leaf none)
def pOf (r : Int) : TF := getO ZTL.dflt (pOfT r).val
def pOfC (r : Int) : Bool := okB (pOfT r).val
def pOfE : Entry := Zf ZVs ZTL (fun a => some (pOfC a)) (fun a => pOf a)
theorem ZvR : Zc Tryz.prog 314 pOfE :=
 pureP 7 [(334, ZDx)] [] ZVs ZTL ⟨ZGh, trivial⟩ Tryz.func314 Tryz.call314 trivial (t := fun a => pOfT a) (fun a => by kernel_rfl)
def ZnK : Entry := .tree (ZP (envX Tryz.prog [] [] 141872468127 8) Tryz.f310)
theorem ZnJ : Zc Tryz.prog 310 ZnK := Zab (P := Tryz.prog) (n := 141872468127) (k := 8) (l := []) (ol := []) trivial Tryz.func310 rfl (by kernel_rfl) Tryz.call310 trivial
abbrev ZL8 : List Sh := [Sh.agg Zed, Sh.one (R.int i64)]
abbrev ZL9 : Rs := Rs.one (Sh.one (R.int u8))
def ZTU (r : TR) (n : Int) : RT (Int) :=
 .br (andI i64 n 7 == 0) (.leaf r.2.1) (.br (andI i64 n 7 == 1) (.leaf r.2.2.1) (.br (andI i64 n 7 == 2) (.leaf r.2.2.2.1) (.br (andI i64 n 7 == 3) (.leaf r.2.2.2.2.1) (.br (andI i64 n 7 == 4) (.leaf r.2.2.2.2.2.1) (.br (andI i64 n 7 == 5) (.leaf r.2.2.2.2.2.2.1) (.br (andI i64 n 7 == 7) (.leaf r.1) (.leaf (0))))))))
def pGet (r : TR) (n : Int) : Int := (ZTU r n).val
def ZVv : Entry := Zf ZL8 ZL9 (fun _ => none) (fun a => pGet a.1 a.2)
theorem ZL7 : Zc Tryz.prog 287 ZVv :=
 pureQ 63 [(310, ZnK)] [] ZL8 ZL9 ⟨ZnJ, trivial⟩ Tryz.func287 Tryz.call287 trivial (t := fun a => ZTU a.1 a.2) (fun a => by kernel_rfl)
abbrev ZLf : List Sh := [Sh.agg Zed, Sh.one (R.int i64), Sh.one (R.int u8)]
abbrev ZLg : Rs := Rs.one (Sh.agg Zed)
def ZTx (r : TR) (n : Int) (v : Int) : RT TR :=
 .br (andI i64 n 7 == 0) (.leaf ((r.1, v, r.2.2))) (.br (andI i64 n 7 == 1) (.leaf ((r.1, r.2.1, v, r.2.2.2))) (.br (andI i64 n 7 == 2) (.leaf ((r.1, r.2.1, r.2.2.1, v, r.2.2.2.2))) (.br (andI i64 n 7 == 3) (.leaf ((r.1, r.2.1, r.2.2.1, r.2.2.2.1, v, r.2.2.2.2.2))) (.br (andI i64 n 7 == 4) (.leaf ((r.1, r.2.1, r.2.2.1, r.2.2.2.1, r.2.2.2.2.1, v, r.2.2.2.2.2.2))) (.br (andI i64 n 7 == 5) (.leaf ((r.1, r.2.1, r.2.2.1, r.2.2.2.1, r.2.2.2.2.1, r.2.2.2.2.2.1, v, r.2.2.2.2.2.2.2))) (.br (andI i64 n 7 == 7) (.leaf ((v, r.2))) (.leaf (r))))))))
def pSet (r : TR) (n : Int) (v : Int) : TR := (ZTx r n v).val
def ZVn : Entry := Zf ZLf ZLg (fun _ => none) (fun a => pSet a.1 a.2.1 a.2.2)
theorem ZLe : Zc Tryz.prog 268 ZVn :=
 pureQ 255 [(310, ZnK)] [] ZLf ZLg ⟨ZnJ, trivial⟩ Tryz.func268 Tryz.call268 trivial (t := fun a => ZTx a.1 a.2.1 a.2.2) (fun a => by kernel_rfl)
abbrev Zzy : List Sh := [Sh.agg Zed, Sh.one (R.int i64)]
abbrev Zzz : Rs := Rs.one (Sh.one (R.int u16))
def ZLz (r : TR) (n : Int) : RT (Int) :=
 .br (andI i64 n 3 == 3) (.leaf r.2.2.2.2.2.2.2.2.1) (.leaf (ZLX (pGet r (i64.wrap (2 * andI i64 n 3))) (pGet r (i64.wrap (i64.wrap (2 * andI i64 n 3) + 1)))))
def ZTG (r : TR) (n : Int) : Int := (ZLz r n).val
def ZVq : Entry := Zf Zzy Zzz (fun _ => none) (fun a => ZTG a.1 a.2)
theorem ZPN : Zc Tryz.prog 286 ZVq :=
 pureQ 31 [(236, ZDG), (287, ZVv)] [] Zzy Zzz ⟨Zkj, ZL7, trivial⟩ Tryz.func286 Tryz.call286 trivial (t := fun a => ZLz a.1 a.2) (fun a => by kernel_rfl)
abbrev ZiJ : List Sh := [Sh.agg Zed, Sh.one (R.int i64), Sh.one (R.int u16)]
abbrev ZiK : Rs := Rs.one (Sh.agg Zed)
def Zmc (r : TR) (n : Int) (v : Int) : RT TR :=
 .br (andI i64 n 3 == 3) (.leaf ((r.1, r.2.1, r.2.2.1, r.2.2.2.1, r.2.2.2.2.1, r.2.2.2.2.2.1, r.2.2.2.2.2.2.1, r.2.2.2.2.2.2.2.1, v, r.2.2.2.2.2.2.2.2.2))) (.leaf (pSet (pSet r (i64.wrap (2 * andI i64 n 3)) (u8.wrap (shrI u16 v 8))) (i64.wrap (i64.wrap (2 * andI i64 n 3) + 1)) (u8.wrap v)))
def ZrX (r : TR) (n : Int) (v : Int) : TR := (Zmc r n v).val
def ZLh : Entry := Zf ZiJ ZiK (fun _ => none) (fun a => ZrX a.1 a.2.1 a.2.2)
theorem Zzn : Zc Tryz.prog 269 ZLh :=
 pureQ 127 [(268, ZVn)] [] ZiJ ZiK ⟨ZLe, trivial⟩ Tryz.func269 Tryz.call269 trivial (t := fun a => Zmc a.1 a.2.1 a.2.2) (fun a => by kernel_rfl)
abbrev ZLD : List Sh := [Sh.one (R.int i64), Sh.agg Zed]
abbrev ZDz : Rs := Rs.one (Sh.one (R.int u16))
def ZPQ (chip : Int) (r : TR) : RT (Option (Int)) :=
 .br (ZDy chip r.2.2.2.2.2.2.2.1) (.leaf (some (ZLX r.1 (ZPP chip r.2.2.2.2.2.2.2.1)))) (.leaf none)
def pPSW (chip : Int) (r : TR) : Int := getO ZDz.dflt (ZPQ chip r).val
def ZTI (chip : Int) (r : TR) : Bool := okB (ZPQ chip r).val
def pPSWE : Entry := Zf ZLD ZDz (fun a => some (ZTI a.1 a.2)) (fun a => pPSW a.1 a.2)
theorem ZTH : Zc Tryz.prog 290 pPSWE :=
 pureP 31 [(236, ZDG), (324, ZRT)] [] ZLD ZDz ⟨Zkj, ZPO, trivial⟩ Tryz.func290 Tryz.call290 trivial (t := fun a => ZPQ a.1 a.2) (fun a => by kernel_rfl)
abbrev Zmd : List Sh := [Sh.one (R.int i64), Sh.agg Zed, Sh.one (R.int u16)]
abbrev Zme : Rs := Rs.one (Sh.agg Zed)
def ZrY (chip : Int) (r : TR) (v : Int) : RT TR :=
 .leaf ((u8.wrap (shrI u16 v 8), r.2.1, r.2.2.1, r.2.2.2.1, r.2.2.2.2.1, r.2.2.2.2.2.1, r.2.2.2.2.2.2.1, ZrU chip (u8.wrap v), r.2.2.2.2.2.2.2.2))
def Zzp (chip : Int) (r : TR) (v : Int) : TR := (ZrY chip r v).val
def ZPE : Entry := Zf Zmd Zme (fun _ => none) (fun a => Zzp a.1 a.2.1 a.2.2)
theorem ZGg : Zc Tryz.prog 281 ZPE :=
 pureQ 127 [(323, ZDo)] [] Zmd Zme ⟨ZGe, trivial⟩ Tryz.func281 Tryz.call281 trivial (t := fun a => ZrY a.1 a.2.1 a.2.2) (fun a => by kernel_rfl)
abbrev ZDB : List Sh := [Sh.one (R.int i64), Sh.one (R.int i64), Sh.one (R.int u8), Sh.one (R.int u8)]
abbrev Zsk : Rs := Rs.tup [Sh.one (R.int u8), Sh.agg rcF7]
def ZmW (chip : Int) (op : Int) (a : Int) (b : Int) : RT (Option (QT3)) :=
 let x1 : Int := bif op == 4 then andI u8 a b else bif op == 5 then xorI u8 a b else bif op == 6 then orI u8 a b else 0
 let x2 := pOf x1
 let x3 := x2.2
 let x4 := x3.2
 .br (pOfC x1) (.leaf (some ((x1, x2.1, x3.1, bif chip == 2 then pMaj (decide (a ≥ 128)) (decide (b ≥ 128)) (decide (x1 ≥ 128)) else x4.1, op == 4 && (chip == 2 || andI u8 (orI u8 a b) 8 != 0), x4.2.2)))) (.leaf none)
def ZDC (chip : Int) (op : Int) (a : Int) (b : Int) : QT3 := getO Zsk.dflt (ZmW chip op a b).val
def Zsl (chip : Int) (op : Int) (a : Int) (b : Int) : Bool := okB (ZmW chip op a b).val
def ZLQ : Entry := Zf ZDB Zsk (fun a => some (Zsl a.1 a.2.1 a.2.2.1 a.2.2.2)) (fun a => ZDC a.1 a.2.1 a.2.2.1 a.2.2.2)
theorem ZLP : Zc Tryz.prog 311 ZLQ :=
 pureP 8858394623 [(314, pOfE), (315, ZGr)] [] ZDB Zsk ⟨ZvR, ZmV, trivial⟩ Tryz.func311 Tryz.call311 trivial (t := fun a => ZmW a.1 a.2.1 a.2.2.1 a.2.2.2) (fun a => by kernel_rfl)
abbrev ZT0 : List Sh := [Sh.one (R.int i64), Sh.one (R.int i64), Sh.one (R.int u8), Sh.one (R.int u8), Sh.agg rcF7]
abbrev ZP1 : Rs := Rs.tup [Sh.one (R.int u8), Sh.agg rcF7]
def pDoT (chip : Int) (op : Int) (a : Int) (b : Int) (f : TF) : RT (Option (QT3)) :=
 let x1 := decide (andI i64 op 7 ≥ 4) && decide (andI i64 op 7 ≤ 6)
 let x2 := f.2.2.2.2.2.2 && (andI i64 op 7 == 1 || andI i64 op 7 == 3)
 let x3 := Zg4 a b x2
 let x4 := x3.1
 let x5 := pOf x4
 let x6 := x5.2
 let x7 := x6.2
 let x8 := x3.2
 let x9 := x8.2
 let x10 := x7.2.2
 let x11 : TF := (x5.1, x6.1, bif chip == 2 then pMaj (decide (a ≥ 128)) (decide (b < 128)) (decide (x4 ≥ 128)) else x7.1, x9.1, x10.1, bif chip == 2 then x9.2 else x10.2.1, x8.1)
 let x12 := pSum a b x2
 let x13 := x12.1
 let x14 := pOf x13
 let x15 := x14.2
 let x16 := x15.2
 let x17 := x12.2
 let x18 := x17.2
 let x19 := x16.2.2
 let x20 : TF := (x14.1, x15.1, bif chip == 2 then pMaj (decide (a ≥ 128)) (decide (b ≥ 128)) (decide (x13 ≥ 128)) else x16.1, x18.1, x19.1, bif chip == 2 then x18.2 else x19.2.1, x17.1)
 .br (!x1 || Zsl chip (andI i64 op 7) a b) (.br (x1) (.leaf (some (ZDC chip (andI i64 op 7) a b))) (.br (andI i64 op 7 != 0 && andI i64 op 7 != 1) (.br (pOfC x4) (.br (andI i64 op 7 == 7) (.leaf (some ((a, x11)))) (.leaf (some ((x4, x11))))) (.leaf none)) (.br (pOfC x13) (.br (andI i64 op 7 == 7) (.leaf (some ((a, x20)))) (.leaf (some ((x13, x20))))) (.leaf none)))) (.leaf none)
def pDo (chip : Int) (op : Int) (a : Int) (b : Int) (f : TF) : QT3 := getO ZP1.dflt (pDoT chip op a b f).val
def pDoC (chip : Int) (op : Int) (a : Int) (b : Int) (f : TF) : Bool := okB (pDoT chip op a b f).val
def pDoE : Entry := Zf ZT0 ZP1 (fun a => some (pDoC a.1 a.2.1 a.2.2.1 a.2.2.2.1 a.2.2.2.2)) (fun a => pDo a.1 a.2.1 a.2.2.1 a.2.2.2.1 a.2.2.2.2)
theorem ZVx : Zc Tryz.prog 271 pDoE :=
 pureP 1048575 [(311, ZLQ), (312, ZPB), (313, ZDP), (314, pOfE), (315, ZGr)] [] ZT0 ZP1 ⟨ZLP, Zzj, Zs7, ZvR, ZmV, trivial⟩ Tryz.func271 Tryz.call271 trivial (t := fun a => pDoT a.1 a.2.1 a.2.2.1 a.2.2.2.1 a.2.2.2.2) (fun a => by kernel_rfl)
abbrev ZvN : List Sh := [Sh.one (R.int i64), Sh.one (R.int u8), Sh.one (R.int u8), Sh.one R.bool, Sh.one R.bool, Sh.one R.bool, Sh.agg rcF7]
abbrev Zmg : Rs := Rs.one (Sh.agg rcF7)
def Zkh (chip : Int) (v : Int) (r : Int) (half : Bool) (over : Bool) (x : Bool) (f : TF) : RT (Option TF) :=
 .br (pOfC r) (.leaf (some (((pOf r).1, (pOf r).2.1, bif chip == 2 then pMaj (decide (v ≥ 128)) x (decide (r ≥ 128)) else (pOf r).2.2.1, half, (pOf r).2.2.2.2.1, bif chip == 2 then over else (pOf r).2.2.2.2.2.1, f.2.2.2.2.2.2)))) (.leaf none)
def Zmh (chip : Int) (v : Int) (r : Int) (half : Bool) (over : Bool) (x : Bool) (f : TF) : TF := getO Zmg.dflt (Zkh chip v r half over x f).val
def ZhU (chip : Int) (v : Int) (r : Int) (half : Bool) (over : Bool) (x : Bool) (f : TF) : Bool := okB (Zkh chip v r half over x f).val
def Zr0 : Entry := Zf ZvN Zmg (fun a => some (ZhU a.1 a.2.1 a.2.2.1 a.2.2.2.1 a.2.2.2.2.1 a.2.2.2.2.2.1 a.2.2.2.2.2.2)) (fun a => Zmh a.1 a.2.1 a.2.2.1 a.2.2.2.1 a.2.2.2.2.1 a.2.2.2.2.2.1 a.2.2.2.2.2.2)
theorem Zpk : Zc Tryz.prog 316 Zr0 :=
 pureP 65535 [(314, pOfE), (315, ZGr)] [] ZvN Zmg ⟨ZvR, ZmV, trivial⟩ Tryz.func316 Tryz.call316 trivial (t := fun a => Zkh a.1 a.2.1 a.2.2.1 a.2.2.2.1 a.2.2.2.2.1 a.2.2.2.2.2.1 a.2.2.2.2.2.2) (fun a => by kernel_rfl)
abbrev ZL1 : List Sh := [Sh.one (R.int i64), Sh.one (R.int u8), Sh.agg rcF7]
abbrev ZDH : Rs := Rs.tup [Sh.one (R.int u8), Sh.agg rcF7]
def ZPX (chip : Int) (v : Int) (f : TF) : RT (Option (QT3)) :=
 .br (ZhU chip v (pSum v 1 false).1 (pSum v 1 false).2.2.1 (pSum v 1 false).2.2.2 false f) (.leaf (some (((pSum v 1 false).1, Zmh chip v (pSum v 1 false).1 (pSum v 1 false).2.2.1 (pSum v 1 false).2.2.2 false f)))) (.leaf none)
def pInr (chip : Int) (v : Int) (f : TF) : QT3 := getO ZDH.dflt (ZPX chip v f).val
def ZTS (chip : Int) (v : Int) (f : TF) : Bool := okB (ZPX chip v f).val
def pInrE : Entry := Zf ZL1 ZDH (fun a => some (ZTS a.1 a.2.1 a.2.2)) (fun a => pInr a.1 a.2.1 a.2.2)
theorem ZTR : Zc Tryz.prog 273 pInrE :=
 pureP 4095 [(312, ZPB), (316, Zr0)] [] ZL1 ZDH ⟨Zzj, Zpk, trivial⟩ Tryz.func273 Tryz.call273 trivial (t := fun a => ZPX a.1 a.2.1 a.2.2) (fun a => by kernel_rfl)
abbrev ZMs : List Sh := [Sh.one (R.int i64), Sh.one (R.int u8), Sh.agg rcF7]
abbrev ZDR : Rs := Rs.tup [Sh.one (R.int u8), Sh.agg rcF7]
def ZP4 (chip : Int) (v : Int) (f : TF) : RT (Option (QT3)) :=
 .br (ZhU chip v (Zg4 v 1 false).1 (Zg4 v 1 false).2.2.1 (Zg4 v 1 false).2.2.2 true f) (.leaf (some (((Zg4 v 1 false).1, Zmh chip v (Zg4 v 1 false).1 (Zg4 v 1 false).2.2.1 (Zg4 v 1 false).2.2.2 true f)))) (.leaf none)
def pDcr (chip : Int) (v : Int) (f : TF) : QT3 := getO ZDR.dflt (ZP4 chip v f).val
def ZT6 (chip : Int) (v : Int) (f : TF) : Bool := okB (ZP4 chip v f).val
def pDcrE : Entry := Zf ZMs ZDR (fun a => some (ZT6 a.1 a.2.1 a.2.2)) (fun a => pDcr a.1 a.2.1 a.2.2)
theorem ZT5 : Zc Tryz.prog 274 pDcrE :=
 pureP 4095 [(313, ZDP), (316, Zr0)] [] ZMs ZDR ⟨Zs7, Zpk, trivial⟩ Tryz.func274 Tryz.call274 trivial (t := fun a => ZP4 a.1 a.2.1 a.2.2) (fun a => by kernel_rfl)
abbrev ZLY : List Sh := [Sh.one (R.int i64), Sh.one (R.int u16), Sh.agg rcF7]
abbrev ZLZ : Rs := Rs.tup [Sh.one (R.int u16), Sh.agg rcF7]
def ZTQ (chip : Int) (v : Int) (f : TF) : RT (QT3) :=
 .leaf ((u16.wrap (v + 1), f.1, f.2.1, bif chip == 2 then v == 65535 else f.2.2.1, f.2.2.2))
def pInx (chip : Int) (v : Int) (f : TF) : QT3 := (ZTQ chip v f).val
def pInxE : Entry := Zf ZLY ZLZ (fun _ => none) (fun a => pInx a.1 a.2.1 a.2.2)
theorem ZTP : Zc Tryz.prog 275 pInxE :=
 pureQ 255 [] [] ZLY ZLZ trivial Tryz.func275 Tryz.call275 trivial (t := fun a => ZTQ a.1 a.2.1 a.2.2) (fun a => by kernel_rfl)
abbrev ZMp : List Sh := [Sh.one (R.int i64), Sh.one (R.int u16), Sh.agg rcF7]
abbrev ZMq : Rs := Rs.tup [Sh.one (R.int u16), Sh.agg rcF7]
def ZT4 (chip : Int) (v : Int) (f : TF) : RT (QT3) :=
 .leaf ((u16.wrap (v - 1), f.1, f.2.1, bif chip == 2 then v == 0 else f.2.2.1, f.2.2.2))
def pDcx (chip : Int) (v : Int) (f : TF) : QT3 := (ZT4 chip v f).val
def pDcxE : Entry := Zf ZMp ZMq (fun _ => none) (fun a => pDcx a.1 a.2.1 a.2.2)
theorem ZT3 : Zc Tryz.prog 276 pDcxE :=
 pureQ 255 [] [] ZMp ZMq trivial Tryz.func276 Tryz.call276 trivial (t := fun a => ZT4 a.1 a.2.1 a.2.2) (fun a => by kernel_rfl)
abbrev ZMt : List Sh := [Sh.one (R.int i64), Sh.one (R.int u16), Sh.one (R.int u16), Sh.agg rcF7]
abbrev ZMu : Rs := Rs.tup [Sh.one (R.int u16), Sh.agg rcF7]
def ZT8 (chip : Int) (a : Int) (b : Int) (f : TF) : RT (QT3) :=
 .leaf ((u16.wrap (a + b), f.1, f.2.1, f.2.2.1, f.2.2.2.1, f.2.2.2.2.1, bif chip == 2 then andI u16 (andI u16 (xorI u16 a (u16.wrap (a + b))) (xorI u16 b (u16.wrap (a + b)))) 32768 != 0 else f.2.2.2.2.2.1, decide (u16.wrap (a + b) < a)))
def pDad (chip : Int) (a : Int) (b : Int) (f : TF) : QT3 := (ZT8 chip a b f).val
def pDadE : Entry := Zf ZMt ZMu (fun _ => none) (fun a => pDad a.1 a.2.1 a.2.2.1 a.2.2.2)
theorem ZT7 : Zc Tryz.prog 277 pDadE :=
 pureQ 2047 [] [] ZMt ZMu trivial Tryz.func277 Tryz.call277 trivial (t := fun a => ZT8 a.1 a.2.1 a.2.2.1 a.2.2.2) (fun a => by kernel_rfl)
abbrev ZAy : List Sh := [Sh.one (R.int u16), Sh.one (R.int u16)]
abbrev Zs6 : Rs := Rs.tup [Sh.one (R.int u16), Sh.agg rcF7]
def ZDO (a : Int) (b : Int) : RT (Option (QT3)) :=
 let x1 := Zg4 (u8.wrap (shrI u16 a 8)) (u8.wrap (shrI u16 b 8)) (Zg4 (u8.wrap a) (u8.wrap b) false).2.1
 let x2 := x1.1
 let x3 := pOf x2
 let x4 := x1.2
 let x5 := x4.2
 .br (pOfC x2) (.leaf (some ((ZLX x2 (Zg4 (u8.wrap a) (u8.wrap b) false).1, x3.1, x2 == 0 && (Zg4 (u8.wrap a) (u8.wrap b) false).1 == 0, pMaj (decide (a ≥ 32768)) (decide (b < 32768)) (decide (x2 ≥ 128)), x5.1, x3.2.2.2.2.1, x5.2, x4.1)))) (.leaf none)
def ZTZ (a : Int) (b : Int) : QT3 := getO Zs6.dflt (ZDO a b).val
def ZMk (a : Int) (b : Int) : Bool := okB (ZDO a b).val
def ZVw : Entry := Zf ZAy Zs6 (fun a => some (ZMk a.1 a.2)) (fun a => ZTZ a.1 a.2)
theorem ZP0 : Zc Tryz.prog 283 ZVw :=
 pureP 32767 [(236, ZDG), (313, ZDP), (314, pOfE), (315, ZGr)] [] ZAy Zs6 ⟨Zkj, Zs7, ZvR, ZmV, trivial⟩ Tryz.func283 Tryz.call283 trivial (t := fun a => ZDO a.1 a.2) (fun a => by kernel_rfl)
abbrev ZMw : List Sh := [Sh.one (R.int i64), Sh.one (R.int u8), Sh.agg rcF7]
abbrev ZDU : Rs := Rs.tup [Sh.one (R.int u8), Sh.agg rcF7]
def ZP6 (chip : Int) (a : Int) (f : TF) : RT (Option (QT3)) :=
 let x1 : Int := bif f.2.2.2.1 || decide (andI u8 a 15 > 9) then 6 else 0
 let x2 := pSum a (bif f.2.2.2.2.2.2 || decide (a > 153) then u8.wrap (x1 + 96) else x1) false
 let x3 := x2.1
 let x4 := pOf x3
 let x5 := x4.2
 let x6 := x5.2
 let x7 := x2.2.2
 let x8 := x6.2.2
 .br (pOfC x3) (.leaf (some ((x3, x4.1, x5.1, bif chip == 2 then pMaj (decide (a ≥ 128)) false (decide (x3 ≥ 128)) else x6.1, x7.1, x8.1, bif chip == 2 then x7.2 else x8.2.1, f.2.2.2.2.2.2 || decide (a > 153))))) (.leaf none)
def pDaa (chip : Int) (a : Int) (f : TF) : QT3 := getO ZDU.dflt (ZP6 chip a f).val
def ZUa (chip : Int) (a : Int) (f : TF) : Bool := okB (ZP6 chip a f).val
def pDaaE : Entry := Zf ZMw ZDU (fun a => some (ZUa a.1 a.2.1 a.2.2)) (fun a => pDaa a.1 a.2.1 a.2.2)
theorem ZT9 : Zc Tryz.prog 278 pDaaE :=
 pureP 32767 [(312, ZPB), (314, pOfE), (315, ZGr)] [] ZMw ZDU ⟨Zzj, ZvR, ZmV, trivial⟩ Tryz.func278 Tryz.call278 trivial (t := fun a => ZP6 a.1 a.2.1 a.2.2) (fun a => by kernel_rfl)
abbrev ZR0 : List Sh := [Sh.one R.bool]
abbrev ZR1 : Rs := Rs.one (Sh.one (R.int u8))
def ZVu (c : Bool) : RT (Int) :=
 .br (c) (.leaf (1)) (.leaf (0))
def pLow (c : Bool) : Int := (ZVu c).val
def ZGs : Entry := Zf ZR0 ZR1 (fun _ => none) (fun a => pLow a)
theorem ZAg : Zc Tryz.prog 320 ZGs :=
 pureQ 7 [] [] ZR0 ZR1 trivial Tryz.func320 Tryz.call320 trivial (t := fun a => ZVu a) (fun a => by kernel_rfl)
def ZfX : Entry := .tree (ZP (envX Tryz.prog [] [] 7 8) Tryz.f317)
theorem Zi3 : Zc Tryz.prog 317 ZfX := Zab (P := Tryz.prog) (n := 7) (k := 8) (l := []) (ol := []) trivial Tryz.func317 rfl (by kernel_rfl) Tryz.call317 trivial
def ZfW : Entry := .tree (ZP (envX Tryz.prog [] [] 7 8) Tryz.f318)
theorem Zi2 : Zc Tryz.prog 318 ZfW := Zab (P := Tryz.prog) (n := 7) (k := 8) (l := []) (ol := []) trivial Tryz.func318 rfl (by kernel_rfl) Tryz.call318 trivial
def ZfV : Entry := .tree (ZP (envX Tryz.prog [(320, ZGs)] [] 15 8) Tryz.f319)
theorem Zi1 : Zc Tryz.prog 319 ZfV := Zab (P := Tryz.prog) (n := 15) (k := 8) (l := [(320, ZGs)]) (ol := []) ⟨ZAg, trivial⟩ Tryz.func319 rfl (by kernel_rfl) Tryz.call319 trivial
def ZfU : Entry := .tree (ZP (envX Tryz.prog [(320, ZGs)] [] 15 8) Tryz.f321)
theorem Zi0 : Zc Tryz.prog 321 ZfU := Zab (P := Tryz.prog) (n := 15) (k := 8) (l := [(320, ZGs)]) (ol := []) ⟨ZAg, trivial⟩ Tryz.func321 rfl (by kernel_rfl) Tryz.call321 trivial
abbrev ZLk : List Sh := [Sh.one (R.int i64), Sh.one (R.int u8), Sh.one R.bool]
abbrev ZDv : Rs := Rs.tup [Sh.one (R.int u8), Sh.one R.bool]
def ZPG (op : Int) (a : Int) (c : Bool) : RT (Option (Int × Bool)) :=
 .br (andI i64 op 3 == 0 || (andI i64 op 3 == ↑(0 + 1) || (andI i64 op 3 == ↑(0 + 1 + 1) || andI i64 op 3 == ↑(0 + 1 + 1 + 1)))) (.leaf (some ((bif andI i64 op 3 == 0 then orI u8 (shlI u8 a 1) (shrI u8 a 7) else bif andI i64 op 3 == ↑(0 + 1) then orI u8 (shrI u8 a 1) (shlI u8 a 7) else bif andI i64 op 3 == ↑(0 + 1 + 1) then orI u8 (shlI u8 a 1) (pLow c) else orI u8 (shrI u8 a 1) (shlI u8 (pLow c) 7), bif andI i64 op 3 == 0 then decide (a ≥ 128) else bif andI i64 op 3 == ↑(0 + 1) then andI u8 a 1 == 1 else bif andI i64 op 3 == ↑(0 + 1 + 1) then decide (a ≥ 128) else andI u8 a 1 == 1)))) (.leaf none)
def pRot (op : Int) (a : Int) (c : Bool) : Int × Bool := getO ZDv.dflt (ZPG op a c).val
def ZTz (op : Int) (a : Int) (c : Bool) : Bool := okB (ZPG op a c).val
def pRotE : Entry := Zf ZLk ZDv (fun a => some (ZTz a.1 a.2.1 a.2.2)) (fun a => pRot a.1 a.2.1 a.2.2)
theorem ZTy : Zc Tryz.prog 279 pRotE :=
 pureP 511 [(317, ZfX), (318, ZfW), (319, ZfV), (321, ZfU)] [] ZLk ZDv ⟨Zi3, Zi2, Zi1, Zi0, trivial⟩ Tryz.func279 Tryz.call279 trivial (t := fun a => ZPG a.1 a.2.1 a.2.2) (fun a => by kernel_rfl)
abbrev ZAB : List Sh := [Sh.one (R.int u16)]
abbrev ZAC : Rs := Rs.tup [Sh.one (R.int u16), Sh.one R.bool]
def ZR7 (v : Int) : RT (Int × Bool) :=
 .leaf ((orI u16 (shrI u16 v 1) (andI u16 v 32768), andI u16 v 1 == 1))
def ZVA (v : Int) : Int × Bool := (ZR7 v).val
def ZVz : Entry := Zf ZAB ZAC (fun _ => none) (fun a => ZVA a)
theorem ZP9 : Zc Tryz.prog 284 ZVz :=
 pureQ 15 [] [] ZAB ZAC trivial Tryz.func284 Tryz.call284 trivial (t := fun a => ZR7 a) (fun a => by kernel_rfl)
abbrev Zzt : List Sh := [Sh.one (R.int u16), Sh.one R.bool]
abbrev Zzu : Rs := Rs.tup [Sh.one (R.int u16), Sh.one R.bool, Sh.one R.bool]
def ZLs (v : Int) (c : Bool) : RT (Int × Bool × Bool) :=
 .leaf ((orI u16 (shlI u16 v 1) (u16.wrap (pLow c)), decide (v ≥ 32768), andI u16 (xorI u16 (orI u16 (shlI u16 v 1) (u16.wrap (pLow c))) v) 32768 != 0))
def ZTE (v : Int) (c : Bool) : Int × Bool × Bool := (ZLs v c).val
def ZVo : Entry := Zf Zzt Zzu (fun _ => none) (fun a => ZTE a.1 a.2)
theorem ZPK : Zc Tryz.prog 285 ZVo :=
 pureQ 127 [(320, ZGs)] [] Zzt Zzu ⟨ZAg, trivial⟩ Tryz.func285 Tryz.call285 trivial (t := fun a => ZLs a.1 a.2) (fun a => by kernel_rfl)
abbrev ZLj : List Sh := [Sh.one R.bool, Sh.one (R.int i64)]
abbrev Zzq : Rs := Rs.one (Sh.one (R.int u8))
def ZDu (b : Bool) (n : Int) : RT (Option (Int)) :=
 .br (!b || decide (0 ≤ n)) (.br (b) (.leaf (some (shlI u8 1 n))) (.leaf (some (0)))) (.leaf none)
def ZvM (b : Bool) (n : Int) : Int := getO Zzq.dflt (ZDu b n).val
def Zcr (b : Bool) (n : Int) : Bool := okB (ZDu b n).val
def ZRR : Entry := Zf ZLj Zzq (fun a => some (Zcr a.1 a.2)) (fun a => ZvM a.1 a.2)
theorem ZPF : Zc Tryz.prog 282 ZRR :=
 pureP 31 [] [] ZLj Zzq trivial Tryz.func282 Tryz.call282 trivial (t := fun a => ZDu a.1 a.2) (fun a => by kernel_rfl)
abbrev ZLm : List Sh := [Sh.agg Zx, Sh.agg (R.pair R.bool (R.pair R.bool rcF7))]
abbrev ZDw : Rs := Rs.tup [Sh.one (R.int u8), Sh.agg Zx]
def ZPI (c : TC) (l : QT0) : RT (Option (Int × TC)) :=
 let x1 := bif c.2.2.2.2.2.2.2.2.2.2.1 then c.2.2.2.2.2.2.2.2.2.2.2.1 else c.2.2.1
 .br (!Zcr l.2.2.2.1 7 || (!Zcr c.2.2.2.2.2.2.2.1 6 || (!Zcr l.2.2.2.2.2.2.1 5 || (!Zcr l.2.2.2.2.2.2.2.1 4 || Zcr x1 3)))) (.br (!Zcr l.2.2.2.1 7 || (!Zcr c.2.2.2.2.2.2.2.1 6 || (!Zcr l.2.2.2.2.2.2.1 5 || Zcr l.2.2.2.2.2.2.2.1 4))) (.br (!Zcr l.2.2.2.1 7 || (!Zcr c.2.2.2.2.2.2.2.1 6 || Zcr l.2.2.2.2.2.2.1 5)) (.br (!Zcr l.2.2.2.1 7 || Zcr c.2.2.2.2.2.2.2.1 6) (.br (Zcr l.2.2.2.1 7) (.leaf (some ((orI u8 (orI u8 (orI u8 (orI u8 (orI u8 (ZvM l.2.2.2.1 7) (ZvM c.2.2.2.2.2.2.2.1 6)) (ZvM l.2.2.2.2.2.2.1 5)) (ZvM l.2.2.2.2.2.2.2.1 4)) (ZvM x1 3)) (andI u8 c.2.2.2.2.2.1 7), c.1, c.2.1, c.2.2.1, c.2.2.2.1, c.2.2.2.2.1, c.2.2.2.2.2.1, c.2.2.2.2.2.2.1, c.2.2.2.2.2.2.2.1, c.2.2.2.2.2.2.2.2.1, c.2.2.2.2.2.2.2.2.2.1, false, false, c.2.2.2.2.2.2.2.2.2.2.2.2)))) (.leaf none)) (.leaf none)) (.leaf none)) (.leaf none)) (.leaf none)
def pRim (c : TC) (l : QT0) : Int × TC := getO ZDw.dflt (ZPI c l).val
def ZTB (c : TC) (l : QT0) : Bool := okB (ZPI c l).val
def pRimE : Entry := Zf ZLm ZDw (fun a => some (ZTB a.1 a.2)) (fun a => pRim a.1 a.2)
theorem ZTA : Zc Tryz.prog 227 pRimE :=
 pureP 255 [(282, ZRR)] [] ZLm ZDw ⟨ZPF, trivial⟩ Tryz.func227 Tryz.call227 trivial (t := fun a => ZPI a.1 a.2) (fun a => by kernel_rfl)
abbrev ZLb : List Sh := [Sh.agg Zx, Sh.one (R.int u8)]
abbrev ZLc : Rs := Rs.one (Sh.agg Zx)
def ZTw (c : TC) (a : Int) : RT TC :=
 .leaf ((c.1, c.2.1, c.2.2.1, c.2.2.2.1, c.2.2.2.2.1, bif andI u8 a 8 != 0 then andI u8 a 7 else c.2.2.2.2.2.1, c.2.2.2.2.2.2.1, !andI u8 a 16 != 0 && c.2.2.2.2.2.2.2.1, c.2.2.2.2.2.2.2.2.1, c.2.2.2.2.2.2.2.2.2.1, c.2.2.2.2.2.2.2.2.2.2.1, c.2.2.2.2.2.2.2.2.2.2.2.1, bif andI u8 a 64 != 0 then andI u8 a 128 != 0 else c.2.2.2.2.2.2.2.2.2.2.2.2))
def pSim (c : TC) (a : Int) : TC := (ZTw c a).val
def pSimE : Entry := Zf ZLb ZLc (fun _ => none) (fun a => pSim a.1 a.2)
theorem ZTv : Zc Tryz.prog 228 pSimE :=
 pureQ 31 [] [] ZLb ZLc trivial Tryz.func228 Tryz.call228 trivial (t := fun a => ZTw a.1 a.2) (fun a => by kernel_rfl)
abbrev Zsq : List Sh := [Sh.one (R.int i64), Sh.agg rcF7]
abbrev Zsr : Rs := Rs.one (Sh.one R.bool)
def ZAm (c : Int) (f : TF) : RT (Bool) :=
 .br (bif c == 0 then c == 0 else c == 1) (.leaf (f.2.1 == (c == 1))) (.br (bif c == 2 then c == 2 else c == 3) (.leaf (f.2.2.2.2.2.2 == (c == 3))) (.br (bif c == 4 then c == 4 else c == 5) (.leaf (f.2.2.2.2.1 == (c == 5))) (.br (bif c == 6 then c == 6 else c == 7) (.leaf (f.1 == (c == 7))) (.br (bif c == 8 then c == 8 else c == 9) (.leaf (f.2.2.1 == (c == 9))) (.br (c == 10) (.leaf f.2.2.2.2.2.1) (.leaf (c == 11)))))))
def ZL6 (c : Int) (f : TF) : Bool := (ZAm c f).val
def ZTT : Entry := Zf Zsq Zsr (fun _ => none) (fun a => ZL6 a.1 a.2)
theorem ZL5 : Zc Tryz.prog 322 ZTT :=
 pureQ 70644700037215 [] [] Zsq Zsr trivial Tryz.func322 Tryz.call322 trivial (t := fun a => ZAm a.1 a.2) (fun a => by kernel_rfl)
abbrev Zl6 : List Sh := [Sh.one (R.int i64)]
abbrev Zl7 : Rs := Rs.one (Sh.one (R.int u16))
def ZrS (s : Int) : RT (Int) :=
 .br (s == 1) (.leaf (36)) (.br (s == 2) (.leaf (60)) (.br (s == 3) (.leaf (52)) (.br (s == 4) (.leaf (44)) (.leaf (0)))))
def Zzi (s : Int) : Int := (ZrS s).val
def ZPA : Entry := Zf Zl6 Zl7 (fun _ => none) (fun a => Zzi a)
theorem ZGd : Zc Tryz.prog 177 ZPA :=
 pureQ 1367 [] [] Zl6 Zl7 trivial Tryz.func177 Tryz.call177 trivial (t := fun a => ZrS a) (fun a => by kernel_rfl)
abbrev ZDD : List Sh := [Sh.one (R.int u8)]
abbrev ZDE : Rs := Rs.tup [Sh.agg (R.pair (R.int i64) (R.pair (R.int i64) (R.pair (R.int i64) (R.pair (R.int i64) (R.pair (R.int i64) (R.pair (R.int i64) (R.pair (R.int i64) (R.int i64)))))))), Sh.one R.bool]
def ZLS (op : Int) : RT (TI × Bool) :=
 .br (op == 8) (.leaf (((40, 1, 0, 0, 0, 0, 0, 0), true))) (.br (op == 16) (.leaf (((41, 1, 0, 0, 0, 0, 0, 0), true))) (.br (op == 24) (.leaf (((42, 1, 0, 0, 0, 0, 0, 0), true))) (.br (op == 32) (.leaf (((38, 1, 0, 0, 0, 0, 0, 0), true))) (.br (op == 40) (.leaf (((43, 2, 0, 0, 0, 0, 0, 0), true))) (.br (op == 48) (.leaf (((39, 1, 0, 0, 0, 0, 0, 0), true))) (.br (op == 56) (.leaf (((44, 2, 0, 0, 0, 0, 0, 0), true))) (.br (op == 203) (.leaf (((45, 1, 0, 0, 0, 0, 10, 0), true))) (.br (op == 217) (.leaf (((46, 1, 0, 0, 0, 0, 0, 0), true))) (.br (op == 221) (.leaf (((24, 3, 0, 0, 0, 0, 8, 0), true))) (.br (op == 237) (.leaf (((47, 1, 0, 0, 0, 0, 0, 0), true))) (.br (op == 253) (.leaf (((24, 3, 0, 0, 0, 0, 9, 0), true))) (.leaf (((0, 0, 0, 0, 0, 0, 0, 0), false))))))))))))))
def ZLU (op : Int) : TI × Bool := (ZLS op).val
def ZLT : Entry := Zf ZDD ZDE (fun _ => none) (fun a => ZLU a)
theorem ZLR : Zc Tryz.prog 239 ZLT :=
 pureQ 314146179375 [] [] ZDD ZDE trivial Tryz.func239 Tryz.call239 trivial (t := fun a => ZLS a) (fun a => by kernel_rfl)
abbrev Zpo : List Sh := [Sh.one (R.int u8)]
abbrev Zpp : Rs := Rs.tup [Sh.agg (R.pair (R.int i64) (R.pair (R.int i64) (R.pair (R.int i64) (R.pair (R.int i64) (R.pair (R.int i64) (R.pair (R.int i64) (R.pair (R.int i64) (R.int i64)))))))), Sh.one R.bool]
def ZvV (op : Int) : RT (TI × Bool) :=
 .br (bif op == 0 then op == 0 else bif op == 8 then op == 8 else bif op == 16 then op == 16 else bif op == 24 then op == 24 else bif op == 32 then op == 32 else bif op == 40 then op == 40 else bif op == 48 then op == 48 else op == 56) (.leaf (((1, 1, 0, 0, 0, 0, 0, 0), true))) (.br (bif op == 195 then op == 195 else op == 203) (.leaf (((24, 3, 0, 0, 0, 0, 11, 0), true))) (.br (bif op == 201 then op == 201 else op == 217) (.leaf (((26, 1, 0, 0, 0, 0, 11, 0), true))) (.br (bif op == 205 then op == 205 else bif op == 221 then op == 221 else bif op == 237 then op == 237 else op == 253) (.leaf (((25, 3, 0, 0, 0, 0, 11, 0), true))) (.leaf (((0, 0, 0, 0, 0, 0, 0, 0), false))))))
def ZhV (op : Int) : TI × Bool := (ZvV op).val
def ZvW : Entry := Zf Zpo Zpp (fun _ => none) (fun a => ZhV a)
theorem ZAx : Zc Tryz.prog 240 ZvW :=
 pureQ 8945711 [] [] Zpo Zpp trivial Tryz.func240 Tryz.call240 trivial (t := fun a => ZvV a) (fun a => by kernel_rfl)
abbrev ZLG : List Sh := [Sh.one (R.int u8)]
abbrev ZzB : Rs := Rs.one (Sh.agg (R.pair (R.int i64) (R.pair (R.int i64) (R.pair (R.int i64) (R.pair (R.int i64) (R.pair (R.int i64) (R.pair (R.int i64) (R.pair (R.int i64) (R.int i64)))))))))
def ZLH (op : Int) : RT (Option TI) :=
 let x1 : QT26 := (0, 0, i64.wrap (andI u8 (shrI u8 op 4) 3), 0, 0, 0)
 let x2 : QT19 := (1, x1)
 let x3 := decide (i64.wrap (andI u8 (shrI u8 op 3) 7) < 4) && andI u8 op 8 != 0
 let x4 := decide (0 ≤ i64.wrap (i64.wrap (andI u8 (shrI u8 op 3) 7) - 4) ∧ i64.wrap (i64.wrap (andI u8 (shrI u8 op 3) 7) - 4) < 4)
 let x5 := i64.wrap (i64.wrap (andI u8 (shrI u8 op 3) 7) - 4) == 0
 let x6 := i64.wrap (i64.wrap (andI u8 (shrI u8 op 3) 7) - 4) == ↑(0 + 1)
 let x7 := i64.wrap (i64.wrap (andI u8 (shrI u8 op 3) 7) - 4) == ↑(0 + 1 + 1)
 let x8 : QT26 := (i64.wrap (andI u8 (shrI u8 op 3) 7), 0, 0, 0, 0, 0)
 let x9 : QT19 := (1, x8)
 .br (andI u8 op 7 == 1) (.br (andI u8 op 8 != 0) (.leaf (some ((18, x2)))) (.leaf (some ((4, 3, x1))))) (.br (!andI u8 op 7 == 2 || (x3 || (decide (i64.wrap (andI u8 (shrI u8 op 3) 7) < 4) || x4))) (.br (andI u8 op 7 == 2) (.br (x3) (.leaf (some ((9, x2)))) (.br (decide (i64.wrap (andI u8 (shrI u8 op 3) 7) < 4)) (.leaf (some ((10, x2)))) (.leaf (some ((bif x5 then 8 else bif x6 then 7 else bif x7 then 6 else 5, 3, 0, 0, 0, 0, 0, 0)))))) (.br (andI u8 op 7 == 3) (.br (andI u8 op 8 != 0) (.leaf (some ((17, x2)))) (.leaf (some ((16, x2))))) (.br (andI u8 op 7 == 4) (.leaf (some ((14, x9)))) (.br (andI u8 op 7 == 5) (.leaf (some ((15, x9)))) (.br (andI u8 op 7 == 6) (.leaf (some ((3, 2, x8)))) (.br (decide (i64.wrap (andI u8 (shrI u8 op 3) 7) < 4)) (.leaf (some ((23, 1, 0, 0, 0, i64.wrap (andI u8 (shrI u8 op 3) 7), 0, 0)))) (.br (x4) (.leaf (some ((bif x5 then 19 else bif x6 then 20 else bif x7 then 21 else 22, 1, 0, 0, 0, 0, 0, 0)))) (.leaf none)))))))) (.leaf none))
def ZTK (op : Int) : QT5 := getO ZzB.dflt (ZLH op).val
def ZLI (op : Int) : Bool := okB (ZLH op).val
def ZRW : Entry := Zf ZLG ZzB (fun a => some (ZLI a)) (fun a => ZTK a)
theorem ZPS : Zc Tryz.prog 241 ZRW :=
 pureP 614758941389750335 [] [] ZLG ZzB trivial Tryz.func241 Tryz.call241 trivial (t := fun a => ZLH a) (fun a => by kernel_rfl)
abbrev ZDA : List Sh := [Sh.one (R.int u8)]
abbrev Zr9 : Rs := Rs.one (Sh.agg (R.pair (R.int i64) (R.pair (R.int i64) (R.pair (R.int i64) (R.pair (R.int i64) (R.pair (R.int i64) (R.pair (R.int i64) (R.pair (R.int i64) (R.int i64)))))))))
def ZzC (op : Int) : RT (Option TI) :=
 let x1 : QT26 := (0, 0, 0, 0, i64.wrap (andI u8 (shrI u8 op 3) 7), 0)
 let x2 : QT19 := (1, 0, 0, i64.wrap (andI u8 (shrI u8 op 4) 3), 0, 0, 0)
 let x3 := andI u8 op 7 == 2 || (!andI u8 op 7 == 3 || (!decide (i64.wrap (andI u8 (shrI u8 op 3) 7) < 4) || decide (0 ≤ i64.wrap (i64.wrap (andI u8 (shrI u8 op 3) 7) - 2) ∧ i64.wrap (i64.wrap (andI u8 (shrI u8 op 3) 7) - 2) < 2)))
 let x4 : QT19 := (3, x1)
 .br (andI u8 op 7 == 0) (.leaf (some ((26, 1, x1)))) (.br (andI u8 op 7 == 1) (.br (!andI u8 op 8 != 0) (.leaf (some ((31, x2)))) (.br (i64.wrap (andI u8 (shrI u8 op 3) 7) == 5) (.leaf (some ((28, 1, 0, 0, 0, 0, 0, 0)))) (.leaf (some ((29, 1, 0, 0, 0, 0, 0, 0)))))) (.br (!x3 || (andI u8 op 7 == 2 || (!andI u8 op 7 == 3 || (decide (i64.wrap (andI u8 (shrI u8 op 3) 7) < 4) || decide (0 ≤ i64.wrap (i64.wrap (andI u8 (shrI u8 op 3) 7) - 4) ∧ i64.wrap (i64.wrap (andI u8 (shrI u8 op 3) 7) - 4) < 4))))) (.br (x3) (.br (andI u8 op 7 == 2) (.leaf (some ((24, x4)))) (.br (andI u8 op 7 == 3) (.br (decide (i64.wrap (andI u8 (shrI u8 op 3) 7) < 4)) (.leaf (some ((bif i64.wrap (i64.wrap (andI u8 (shrI u8 op 3) 7) - 2) == 0 then 34 else 33, 2, 0, 0, 0, 0, 0, 0)))) (.leaf (some ((bif i64.wrap (i64.wrap (andI u8 (shrI u8 op 3) 7) - 4) == 0 then 32 else bif i64.wrap (i64.wrap (andI u8 (shrI u8 op 3) 7) - 4) == ↑(0 + 1) then 11 else bif i64.wrap (i64.wrap (andI u8 (shrI u8 op 3) 7) - 4) == ↑(0 + 1 + 1) then 36 else 35, 1, 0, 0, 0, 0, 0, 0))))) (.br (andI u8 op 7 == 4) (.leaf (some ((25, x4)))) (.br (andI u8 op 7 == 5) (.leaf (some ((30, x2)))) (.br (andI u8 op 7 == 6) (.leaf (some ((13, 2, 0, 0, 0, i64.wrap (andI u8 (shrI u8 op 3) 7), 0, 0)))) (.leaf (some ((27, 1, 0, 0, 0, 0, 0, i64.wrap (andI u8 (shrI u8 op 3) 7)))))))))) (.leaf none)) (.leaf none)))
def ZLL (op : Int) : QT5 := getO Zr9.dflt (ZzC op).val
def ZzD (op : Int) : Bool := okB (ZzC op).val
def ZLK : Entry := Zf ZDA Zr9 (fun a => some (ZzD a)) (fun a => ZLL a)
theorem ZLJ : Zc Tryz.prog 242 ZLK :=
 pureP 614741495173873727 [] [] ZDA Zr9 trivial Tryz.func242 Tryz.call242 trivial (t := fun a => ZzC a) (fun a => by kernel_rfl)
abbrev ZhW : List Sh := [Sh.one (R.int i64), Sh.one (R.int u8)]
abbrev ZhX : Rs := Rs.one (Sh.agg (R.pair (R.int i64) (R.pair (R.int i64) (R.pair (R.int i64) (R.pair (R.int i64) (R.pair (R.int i64) (R.pair (R.int i64) (R.pair (R.int i64) (R.int i64)))))))))
def ZeW (chip : Int) (op : Int) : RT (Option TI) :=
 let x1 : QT5 := (37, 1, 0, 0, 0, 0, 0, 0)
 let x2 : QT5 := (2, 1, i64.wrap (andI u8 (shrI u8 op 3) 7), i64.wrap (andI u8 op 7), 0, 0, 0, 0)
 let x3 : QT5 := (12, 1, 0, i64.wrap (andI u8 op 7), 0, i64.wrap (andI u8 (shrI u8 op 3) 7), 0, 0)
 .br (chip == 2) (.br (ZLU op).2 (.leaf (some (ZLU op).1)) (.br (ZhV op).2 (.leaf (some (ZhV op).1)) (.br (!shrI u8 op 6 == 0 || ZLI op) (.br (shrI u8 op 6 == 0) (.leaf (some (ZTK op))) (.br (shrI u8 op 6 == 1) (.br (op == 118) (.leaf (some (x1))) (.leaf (some (x2)))) (.br (shrI u8 op 6 == 2) (.leaf (some (x3))) (.br (ZzD op) (.leaf (some (ZLL op))) (.leaf none))))) (.leaf none)))) (.br (ZhV op).2 (.leaf (some (ZhV op).1)) (.br (!shrI u8 op 6 == 0 || ZLI op) (.br (shrI u8 op 6 == 0) (.leaf (some (ZTK op))) (.br (shrI u8 op 6 == 1) (.br (op == 118) (.leaf (some (x1))) (.leaf (some (x2)))) (.br (shrI u8 op 6 == 2) (.leaf (some (x3))) (.br (ZzD op) (.leaf (some (ZLL op))) (.leaf none))))) (.leaf none)))
def Zm3 (chip : Int) (op : Int) : QT5 := getO ZhX.dflt (ZeW chip op).val
def Zkk (chip : Int) (op : Int) : Bool := okB (ZeW chip op).val
def ZP2 : Entry := Zf ZhW ZhX (fun a => some (Zkk a.1 a.2)) (fun a => Zm3 a.1 a.2)
theorem ZG9 : Zc Tryz.prog 182 ZP2 :=
 pureP 17594467746303 [(239, ZLT), (240, ZvW), (241, ZRW), (242, ZLK)] [] ZhW ZhX ⟨ZLR, ZAx, ZPS, ZLJ, trivial⟩ Tryz.func182 Tryz.call182 trivial (t := fun a => ZeW a.1 a.2) (fun a => by kernel_rfl)
abbrev ZU4 : List Sh := [Sh.one (R.int i64)]
abbrev ZU5 : Rs := Rs.one (Sh.one R.bool)
def rOnT (chip : Int) : RT (Bool) :=
 .leaf (chip == 2)
def rOn (chip : Int) : Bool := (rOnT chip).val
def rOnE : Entry := Zf ZU4 ZU5 (fun _ => none) (fun a => rOn a)
theorem ZdF : Zc Tryz.prog 146 rOnE :=
 pureQ 7 [] [] ZU4 ZU5 trivial Tryz.func146 Tryz.call146 trivial (t := fun a => rOnT a) (fun a => by kernel_rfl)
abbrev Zva : List Sh := [Sh.one (R.int u8)]
abbrev Zvb : Rs := Rs.one (Sh.one R.bool)
def ZCJ (b : Int) : RT (Bool) :=
 let x1 := i64.wrap (i64.wrap (i64.wrap (i64.wrap (0 + 1) + 1) + 1) + 1)
 let x2 := i64.wrap (x1 + 1)
 let x3 := i64.wrap (x2 + 1)
 let x4 := bif andI u8 (shrI u8 b (i64.wrap (0 + 1))) 1 == 1 then !!andI u8 (shrI u8 b 0) 1 == 1 else !andI u8 (shrI u8 b 0) 1 == 1
 let x5 := bif andI u8 (shrI u8 b (i64.wrap (i64.wrap (0 + 1) + 1))) 1 == 1 then !x4 else x4
 let x6 := bif andI u8 (shrI u8 b (i64.wrap (i64.wrap (i64.wrap (0 + 1) + 1) + 1))) 1 == 1 then !x5 else x5
 let x7 := bif andI u8 (shrI u8 b x1) 1 == 1 then !x6 else x6
 let x8 := bif andI u8 (shrI u8 b x2) 1 == 1 then !x7 else x7
 let x9 := bif andI u8 (shrI u8 b x3) 1 == 1 then !x8 else x8
 .leaf (bif andI u8 (shrI u8 b (i64.wrap (x3 + 1))) 1 == 1 then !x9 else x9)
def Zk7 (b : Int) : Bool := (ZCJ b).val
def ZqE : Entry := Zf Zva Zvb (fun _ => none) (fun a => Zk7 a)
theorem ZoY : Zc Tryz.prog 266 ZqE :=
 ZDk (P := Tryz.prog) (n := 31) (k := 10) (l := []) (ol := []) trivial Tryz.func266 rfl (by kernel_rfl) Tryz.call266 trivial (ts := Zva) (rs := Zvb) (t := fun a => ZCJ a) (fun a => by kernel_rfl)
abbrev ZRn : List Sh := [Sh.one R.bool, Sh.one R.bool, Sh.one R.bool]
abbrev ZRo : Rs := Rs.one (Sh.one R.bool)
def ZVa (a : Bool) (b : Bool) (c : Bool) : RT (Bool) :=
 .leaf (bif a then b || bif a then c || b && c else b && c else bif a then c || b && c else b && c)
def rMaj (a : Bool) (b : Bool) (c : Bool) : Bool := (ZVa a b c).val
def ZFn : Entry := Zf ZRn ZRo (fun _ => none) (fun a => rMaj a.1 a.2.1 a.2.2)
theorem ZlN : Zc Tryz.prog 264 ZFn :=
 pureQ 127 [] [] ZRn ZRo trivial Tryz.func264 Tryz.call264 trivial (t := fun a => ZVa a.1 a.2.1 a.2.2) (fun a => by kernel_rfl)
abbrev ZRh : List Sh := [Sh.one R.bool]
abbrev ZRi : Rs := Rs.one (Sh.one (R.int i64))
def ZU3 (b : Bool) : RT (Int) :=
 .br (b) (.leaf (1)) (.leaf (0))
def rOne (b : Bool) : Int := (ZU3 b).val
def ZPd : Entry := Zf ZRh ZRi (fun _ => none) (fun a => rOne a)
theorem Zx3 : Zc Tryz.prog 267 ZPd :=
 pureQ 7 [] [] ZRh ZRi trivial Tryz.func267 Tryz.call267 trivial (t := fun a => ZU3 a) (fun a => by kernel_rfl)
abbrev ZuZ : List Sh := [Sh.one (R.int u8)]
abbrev Zu0 : Rs := Rs.one (Sh.one (R.int i64))
def Zj4 (n : Int) : RT (Int) :=
 .leaf (i64.wrap (IntKind.i8.wrap n))
def ZdD (n : Int) : Int := (Zj4 n).val
def Zqx : Entry := Zf ZuZ Zu0 (fun _ => none) (fun a => ZdD a)
theorem ZoR : Zc Tryz.prog 309 Zqx :=
 pureQ 7 [] [] ZuZ Zu0 trivial Tryz.func309 Tryz.call309 trivial (t := fun a => Zj4 a) (fun a => by kernel_rfl)
abbrev ZQ7 : List Sh := [Sh.one (R.int u8), Sh.one (R.int u8), Sh.one R.bool]
abbrev ZQ8 : Rs := Rs.tup [Sh.one (R.int u8), Sh.one R.bool, Sh.one R.bool, Sh.one R.bool]
def ZOX (a : Int) (b : Int) (c : Bool) : RT (QT17) :=
 let x1 := decide (i64.wrap (i64.wrap (ZdD a + ZdD b) + rOne c) < -128)
 let x2 := i64.wrap (i64.wrap (i64.wrap a + i64.wrap b) + rOne c)
 let x3 := u8.wrap x2
 let x4 := decide (x2 > 255)
 let x5 := decide (i64.wrap (i64.wrap (i64.wrap (andI u8 a 15) + i64.wrap (andI u8 b 15)) + rOne c) > 15)
 .leaf ((bif x1 then x3 else x3, bif x1 then x4 else x4, bif x1 then x5 else x5, x1 || decide (i64.wrap (i64.wrap (ZdD a + ZdD b) + rOne c) > 127)))
def rSum (a : Int) (b : Int) (c : Bool) : QT17 := (ZOX a b c).val
def ZOY : Entry := Zf ZQ7 ZQ8 (fun _ => none) (fun a => rSum a.1 a.2.1 a.2.2)
theorem ZxO : Zc Tryz.prog 260 ZOY :=
 pureQ 8191 [(267, ZPd), (309, Zqx)] [] ZQ7 ZQ8 ⟨Zx3, ZoR, trivial⟩ Tryz.func260 Tryz.call260 trivial (t := fun a => ZOX a.1 a.2.1 a.2.2) (fun a => by kernel_rfl)
abbrev ZKA : List Sh := [Sh.one (R.int u8), Sh.one (R.int u8), Sh.one R.bool]
abbrev ZKB : Rs := Rs.tup [Sh.one (R.int u8), Sh.one R.bool, Sh.one R.bool, Sh.one R.bool]
def ZC5 (a : Int) (b : Int) (c : Bool) : RT (QT17) :=
 let x1 := decide (i64.wrap (i64.wrap (ZdD a - ZdD b) - rOne c) < -128)
 let x2 := i64.wrap (i64.wrap (i64.wrap a - i64.wrap b) - rOne c)
 let x3 := u8.wrap x2
 let x4 := decide (x2 < 0)
 let x5 := decide (i64.wrap (i64.wrap (i64.wrap (i64.wrap (andI u8 a 15) + i64.wrap (u8.wrap (15 - andI u8 b 15))) + 1) - rOne c) > 15)
 .leaf ((bif x1 then x3 else x3, bif x1 then x4 else x4, bif x1 then x5 else x5, x1 || decide (i64.wrap (i64.wrap (ZdD a - ZdD b) - rOne c) > 127)))
def Zcd (a : Int) (b : Int) (c : Bool) : QT17 := (ZC5 a b c).val
def ZC6 : Entry := Zf ZKA ZKB (fun _ => none) (fun a => Zcd a.1 a.2.1 a.2.2)
theorem ZrC : Zc Tryz.prog 261 ZC6 :=
 pureQ 8191 [(267, ZPd), (309, Zqx)] [] ZKA ZKB ⟨Zx3, ZoR, trivial⟩ Tryz.func261 Tryz.call261 trivial (t := fun a => ZC5 a.1 a.2.1 a.2.2) (fun a => by kernel_rfl)
abbrev ZKb : List Sh := [Sh.one (R.int u8), Sh.one (R.int u8)]
abbrev ZKc : Rs := Rs.one (Sh.one (R.int u16))
def ZRp (h : Int) (l : Int) : RT (Int) :=
 .leaf (orI u16 (shlI u16 (u16.wrap h) 8) (u16.wrap l))
def Zcp (h : Int) (l : Int) : Int := (ZRp h l).val
def ZlR : Entry := Zf ZKb ZKc (fun _ => none) (fun a => Zcp a.1 a.2)
theorem ZhJ : Zc Tryz.prog 172 ZlR :=
 pureQ 31 [] [] ZKb ZKc trivial Tryz.func172 Tryz.call172 trivial (t := fun a => ZRp a.1 a.2) (fun a => by kernel_rfl)
abbrev ZRH : List Sh := [Sh.one R.bool, Sh.one (R.int i64)]
abbrev ZKH : Rs := Rs.one (Sh.one (R.int u8))
def ZPp (b : Bool) (n : Int) : RT (Option (Int)) :=
 .br (!b || decide (0 ≤ n)) (.br (b) (.leaf (some (shlI u8 1 n))) (.leaf (some (0)))) (.leaf none)
def rBit (b : Bool) (n : Int) : Int := getO ZKH.dflt (ZPp b n).val
def Zdj (b : Bool) (n : Int) : Bool := okB (ZPp b n).val
def ZPq : Entry := Zf ZRH ZKH (fun a => some (Zdj a.1 a.2)) (fun a => rBit a.1 a.2)
theorem Zy4 : Zc Tryz.prog 265 ZPq :=
 pureP 31 [] [] ZRH ZKH trivial Tryz.func265 Tryz.call265 trivial (t := fun a => ZPp a.1 a.2) (fun a => by kernel_rfl)
abbrev ZJQ : List Sh := [Sh.one (R.int i64), Sh.agg rcF7]
abbrev Zx2 : Rs := Rs.one (Sh.one (R.int u8))
def Zvc (chip : Int) (f : TF) : RT (Option (Int)) :=
 let x1 := orI u8 (orI u8 (orI u8 (orI u8 (rBit f.1 7) (rBit f.2.1 6)) (rBit f.2.2.2.1 4)) (rBit f.2.2.2.2.1 2)) (rBit f.2.2.2.2.2.2 0)
 .br (!Zdj f.1 7 || (!Zdj f.2.1 6 || (!Zdj f.2.2.2.1 4 || (!Zdj f.2.2.2.2.1 2 || Zdj f.2.2.2.2.2.2 0)))) (.br (!Zdj f.1 7 || (!Zdj f.2.1 6 || (!Zdj f.2.2.2.1 4 || Zdj f.2.2.2.2.1 2))) (.br (!Zdj f.1 7 || (!Zdj f.2.1 6 || Zdj f.2.2.2.1 4)) (.br (!Zdj f.1 7 || Zdj f.2.1 6) (.br (Zdj f.1 7) (.br (!rOn chip || (!Zdj f.2.2.1 5 || Zdj f.2.2.2.2.2.1 1)) (.br (!rOn chip || Zdj f.2.2.1 5) (.br (rOn chip) (.leaf (some (orI u8 (orI u8 x1 (rBit f.2.2.1 5)) (rBit f.2.2.2.2.2.1 1)))) (.leaf (some (orI u8 x1 2)))) (.leaf none)) (.leaf none)) (.leaf none)) (.leaf none)) (.leaf none)) (.leaf none)) (.leaf none)
def ZPb (chip : Int) (f : TF) : Int := getO Zx2.dflt (Zvc chip f).val
def ZCK (chip : Int) (f : TF) : Bool := okB (Zvc chip f).val
def ZRg : Entry := Zf ZJQ Zx2 (fun a => some (ZCK a.1 a.2)) (fun a => ZPb a.1 a.2)
theorem ZPa : Zc Tryz.prog 221 ZRg :=
 pureP 63 [(146, rOnE), (265, ZPq)] [] ZJQ Zx2 ⟨ZdF, Zy4, trivial⟩ Tryz.func221 Tryz.call221 trivial (t := fun a => Zvc a.1 a.2) (fun a => by kernel_rfl)
abbrev ZuS : List Sh := [Sh.one (R.int i64), Sh.one (R.int u8)]
abbrev ZuT : Rs := Rs.one (Sh.agg rcF7)
def Zqt (chip : Int) (b : Int) : RT TF :=
 .leaf ((andI u8 b 128 != 0, andI u8 b 64 != 0, rOn chip && andI u8 b 32 != 0, andI u8 b 16 != 0, andI u8 b 4 != 0, rOn chip && andI u8 b 2 != 0, andI u8 b 1 != 0))
def Zqu (chip : Int) (b : Int) : TF := (Zqt chip b).val
def ZCl : Entry := Zf ZuS ZuT (fun _ => none) (fun a => Zqu a.1 a.2)
theorem ZE3 : Zc Tryz.prog 259 ZCl :=
 pureQ 63 [(146, rOnE)] [] ZuS ZuT ⟨ZdF, trivial⟩ Tryz.func259 Tryz.call259 trivial (t := fun a => Zqt a.1 a.2) (fun a => by kernel_rfl)
abbrev ZU7 : List Sh := [Sh.one (R.int u8)]
abbrev ZU8 : Rs := Rs.one (Sh.agg rcF7)
def rOfT (r : Int) : RT TF :=
 .leaf ((decide (r ≥ 128), r == 0, false, false, Zk7 r, false, false))
def rOf (r : Int) : TF := (rOfT r).val
def rOfE : Entry := Zf ZU7 ZU8 (fun _ => none) (fun a => rOf a)
theorem ZCN : Zc Tryz.prog 262 rOfE :=
 pureQ 7 [(266, ZqE)] [] ZU7 ZU8 ⟨ZoY, trivial⟩ Tryz.func262 Tryz.call262 trivial (t := fun a => rOfT a) (fun a => by kernel_rfl)
abbrev ZJU : List Sh := [Sh.one (R.int i64), Sh.agg rcF7, Sh.one R.bool, Sh.one R.bool]
abbrev ZJV : Rs := Rs.one (Sh.agg rcF7)
def Zo0 (chip : Int) (f : TF) (k : Bool) (v : Bool) : RT TF :=
 .leaf ((f.1, f.2.1, rOn chip && bif rOn chip then k else k, f.2.2.2.1, f.2.2.2.2.1, bif rOn chip then rOn chip && v else rOn chip && v, f.2.2.2.2.2.2))
def Zob (chip : Int) (f : TF) (k : Bool) (v : Bool) : TF := (Zo0 chip f k v).val
def Zvd : Entry := Zf ZJU ZJV (fun _ => none) (fun a => Zob a.1 a.2.1 a.2.2.1 a.2.2.2)
theorem Zj7 : Zc Tryz.prog 263 Zvd :=
 pureQ 511 [(146, rOnE)] [] ZJU ZJV ⟨ZdF, trivial⟩ Tryz.func263 Tryz.call263 trivial (t := fun a => Zo0 a.1 a.2.1 a.2.2.1 a.2.2.2) (fun a => by kernel_rfl)
abbrev ZKg : List Sh := [Sh.agg Zed, Sh.one (R.int i64)]
abbrev ZCX : Rs := Rs.one (Sh.one (R.int u8))
def ZyP (r : TR) (n : Int) : RT (Option (Int)) :=
 .br (decide (0 ≤ andI i64 n 7 ∧ andI i64 n 7 < 8)) (.leaf (some (bif andI i64 n 7 == 0 then r.2.1 else bif andI i64 n 7 == ↑(0 + 1) then r.2.2.1 else bif andI i64 n 7 == ↑(0 + 1 + 1) then r.2.2.2.1 else bif andI i64 n 7 == ↑(0 + 1 + 1 + 1) then r.2.2.2.2.1 else bif andI i64 n 7 == ↑(0 + 1 + 1 + 1 + 1) then r.2.2.2.2.2.1 else bif andI i64 n 7 == ↑(0 + 1 + 1 + 1 + 1 + 1) then r.2.2.2.2.2.2.1 else bif andI i64 n 7 == ↑(0 + 1 + 1 + 1 + 1 + 1 + 1) then 0 else r.1))) (.leaf none)
def rGet (r : TR) (n : Int) : Int := getO ZCX.dflt (ZyP r n).val
def ZyR (r : TR) (n : Int) : Bool := okB (ZyP r n).val
def ZVc : Entry := Zf ZKg ZCX (fun a => some (ZyR a.1 a.2)) (fun a => rGet a.1 a.2)
theorem ZKf : Zc Tryz.prog 163 ZVc :=
 pureP 31 [] [] ZKg ZCX trivial Tryz.func163 Tryz.call163 trivial (t := fun a => ZyP a.1 a.2) (fun a => by kernel_rfl)
abbrev ZRb : List Sh := [Sh.agg Zed, Sh.one (R.int i64), Sh.one (R.int u8)]
abbrev ZRc : Rs := Rs.one (Sh.agg Zed)
def ZSS (r : TR) (n : Int) (v : Int) : RT TR :=
 .leaf ((bif andI i64 n 7 == 0 then r.1 else bif andI i64 n 7 == 1 then r.1 else bif andI i64 n 7 == 2 then r.1 else bif andI i64 n 7 == 3 then r.1 else bif andI i64 n 7 == 4 then r.1 else bif andI i64 n 7 == 5 then r.1 else bif andI i64 n 7 == 7 then v else r.1, bif andI i64 n 7 == 0 then v else r.2.1, bif andI i64 n 7 == 0 then r.2.2.1 else bif andI i64 n 7 == 1 then v else r.2.2.1, bif andI i64 n 7 == 0 then r.2.2.2.1 else bif andI i64 n 7 == 1 then r.2.2.2.1 else bif andI i64 n 7 == 2 then v else r.2.2.2.1, bif andI i64 n 7 == 0 then r.2.2.2.2.1 else bif andI i64 n 7 == 1 then r.2.2.2.2.1 else bif andI i64 n 7 == 2 then r.2.2.2.2.1 else bif andI i64 n 7 == 3 then v else r.2.2.2.2.1, bif andI i64 n 7 == 0 then r.2.2.2.2.2.1 else bif andI i64 n 7 == 1 then r.2.2.2.2.2.1 else bif andI i64 n 7 == 2 then r.2.2.2.2.2.1 else bif andI i64 n 7 == 3 then r.2.2.2.2.2.1 else bif andI i64 n 7 == 4 then v else r.2.2.2.2.2.1, bif andI i64 n 7 == 0 then r.2.2.2.2.2.2.1 else bif andI i64 n 7 == 1 then r.2.2.2.2.2.2.1 else bif andI i64 n 7 == 2 then r.2.2.2.2.2.2.1 else bif andI i64 n 7 == 3 then r.2.2.2.2.2.2.1 else bif andI i64 n 7 == 4 then r.2.2.2.2.2.2.1 else bif andI i64 n 7 == 5 then v else r.2.2.2.2.2.2.1, r.2.2.2.2.2.2.2))
def rSet (r : TR) (n : Int) (v : Int) : TR := (ZSS r n v).val
def ZE6 : Entry := Zf ZRb ZRc (fun _ => none) (fun a => rSet a.1 a.2.1 a.2.2)
theorem ZxQ : Zc Tryz.prog 205 ZE6 :=
 pureQ 9162596991 [] [] ZRb ZRc trivial Tryz.func205 Tryz.call205 trivial (t := fun a => ZSS a.1 a.2.1 a.2.2) (fun a => by kernel_rfl)
abbrev Zx1 : List Sh := [Sh.agg Zed, Sh.one (R.int i64)]
abbrev ZqF : Rs := Rs.one (Sh.one (R.int u16))
def ZoZ (r : TR) (n : Int) : RT (Option (Int)) :=
 .br (andI i64 n 3 == 3) (.leaf (some r.2.2.2.2.2.2.2.2.1)) (.br (!ZyR r (i64.wrap (2 * andI i64 n 3)) || ZyR r (i64.wrap (i64.wrap (2 * andI i64 n 3) + 1))) (.br (ZyR r (i64.wrap (2 * andI i64 n 3))) (.leaf (some (Zcp (rGet r (i64.wrap (2 * andI i64 n 3))) (rGet r (i64.wrap (i64.wrap (2 * andI i64 n 3) + 1)))))) (.leaf none)) (.leaf none))
def Zai (r : TR) (n : Int) : Int := getO ZqF.dflt (ZoZ r n).val
def ZJP (r : TR) (n : Int) : Bool := okB (ZoZ r n).val
def ZU2 : Entry := Zf Zx1 ZqF (fun a => some (ZJP a.1 a.2)) (fun a => Zai a.1 a.2)
theorem ZO9 : Zc Tryz.prog 158 ZU2 :=
 pureP 31 [(163, ZVc), (172, ZlR)] [] Zx1 ZqF ⟨ZKf, ZhJ, trivial⟩ Tryz.func158 Tryz.call158 trivial (t := fun a => ZoZ a.1 a.2) (fun a => by kernel_rfl)
abbrev ZoS : List Sh := [Sh.agg Zed, Sh.one (R.int i64), Sh.one (R.int u16)]
abbrev ZoT : Rs := Rs.one (Sh.agg Zed)
def Zfv (r : TR) (n : Int) (v : Int) : RT TR :=
 .br (andI i64 n 3 == 3) (.leaf ((r.1, r.2.1, r.2.2.1, r.2.2.2.1, r.2.2.2.2.1, r.2.2.2.2.2.1, r.2.2.2.2.2.2.1, r.2.2.2.2.2.2.2.1, v, r.2.2.2.2.2.2.2.2.2))) (.leaf (rSet (rSet r (i64.wrap (2 * andI i64 n 3)) (u8.wrap (shrI u16 v 8))) (i64.wrap (i64.wrap (2 * andI i64 n 3) + 1)) (u8.wrap v)))
def Zs (r : TR) (n : Int) (v : Int) : TR := (Zfv r n v).val
def Zfw : Entry := Zf ZoS ZoT (fun _ => none) (fun a => Zs a.1 a.2.1 a.2.2)
theorem Zk2 : Zc Tryz.prog 206 Zfw :=
 pureQ 127 [(205, ZE6)] [] ZoS ZoT ⟨ZxQ, trivial⟩ Tryz.func206 Tryz.call206 trivial (t := fun a => Zfv a.1 a.2.1 a.2.2) (fun a => by kernel_rfl)
abbrev ZJR : List Sh := [Sh.one (R.int i64), Sh.agg Zed]
abbrev ZCL : Rs := Rs.one (Sh.one (R.int u16))
def ZJS (chip : Int) (r : TR) : RT (Option (Int)) :=
 .br (ZCK chip r.2.2.2.2.2.2.2.1) (.leaf (some (Zcp r.1 (ZPb chip r.2.2.2.2.2.2.2.1)))) (.leaf none)
def rPSW (chip : Int) (r : TR) : Int := getO ZCL.dflt (ZJS chip r).val
def ZSZ (chip : Int) (r : TR) : Bool := okB (ZJS chip r).val
def rPSWE : Entry := Zf ZJR ZCL (fun a => some (ZSZ a.1 a.2)) (fun a => rPSW a.1 a.2)
theorem ZSY : Zc Tryz.prog 171 rPSWE :=
 pureP 31 [(172, ZlR), (221, ZRg)] [] ZJR ZCL ⟨ZhJ, ZPa, trivial⟩ Tryz.func171 Tryz.call171 trivial (t := fun a => ZJS a.1 a.2) (fun a => by kernel_rfl)
abbrev Zu1 : List Sh := [Sh.one (R.int i64), Sh.agg Zed, Sh.one (R.int u16)]
abbrev Zu2 : Rs := Rs.one (Sh.agg Zed)
def Zj5 (chip : Int) (r : TR) (v : Int) : RT TR :=
 .leaf ((u8.wrap (shrI u16 v 8), r.2.1, r.2.2.1, r.2.2.2.1, r.2.2.2.2.1, r.2.2.2.2.2.1, r.2.2.2.2.2.2.1, Zqu chip (u8.wrap v), r.2.2.2.2.2.2.2.2))
def Zfx (chip : Int) (r : TR) (v : Int) : TR := (Zj5 chip r v).val
def Zqy : Entry := Zf Zu1 Zu2 (fun _ => none) (fun a => Zfx a.1 a.2.1 a.2.2)
theorem ZE5 : Zc Tryz.prog 207 Zqy :=
 pureQ 127 [(259, ZCl)] [] Zu1 Zu2 ⟨ZE3, trivial⟩ Tryz.func207 Tryz.call207 trivial (t := fun a => Zj5 a.1 a.2.1 a.2.2) (fun a => by kernel_rfl)
abbrev ZVf : List Sh := [Sh.one (R.int i64), Sh.one (R.int i64), Sh.one (R.int u8), Sh.one (R.int u8), Sh.agg rcF7]
abbrev ZVg : Rs := Rs.tup [Sh.one (R.int u8), Sh.agg rcF7]
def rDoT (chip : Int) (op : Int) (a : Int) (b : Int) (f : TF) : RT (QT3) :=
 let x1 := bif andI i64 op 7 == 0 then andI i64 op 7 == 0 else andI i64 op 7 == 1
 let x2 := bif andI i64 op 7 == 2 then andI i64 op 7 == 2 else bif andI i64 op 7 == 3 then andI i64 op 7 == 3 else andI i64 op 7 == 7
 let x3 : Int := bif x1 then bif andI i64 op 7 == 1 then (rSum a b f.2.2.2.2.2.2).1 else (rSum a b false).1 else bif x2 then bif andI i64 op 7 == 3 then (Zcd a b f.2.2.2.2.2.2).1 else (Zcd a b false).1 else bif andI i64 op 7 == 4 then bif rOn chip then andI u8 a b else andI u8 a b else bif andI i64 op 7 == 5 then xorI u8 a b else bif andI i64 op 7 == 6 then orI u8 a b else 0
 let x4 := rOf x3
 let x5 := x4.2
 let x6 := x5.2
 let x7 := x6.2.2
 let x8 := Zob chip (x4.1, x5.1, x6.1, bif x1 then bif andI i64 op 7 == 1 then (rSum a b f.2.2.2.2.2.2).2.2.1 else (rSum a b false).2.2.1 else bif x2 then bif andI i64 op 7 == 3 then (Zcd a b f.2.2.2.2.2.2).2.2.1 else (Zcd a b false).2.2.1 else andI i64 op 7 == 4 && (rOn chip || andI u8 (orI u8 a b) 8 != 0), x7.1, x7.2.1, bif x1 then bif andI i64 op 7 == 1 then (rSum a b f.2.2.2.2.2.2).2.1 else (rSum a b false).2.1 else x2 && bif andI i64 op 7 == 3 then (Zcd a b f.2.2.2.2.2.2).2.1 else (Zcd a b false).2.1) (rMaj (decide (a ≥ 128)) (bif x1 then decide (b ≥ 128) else bif x2 then !decide (b ≥ 128) else decide (b ≥ 128)) (decide (x3 ≥ 128))) (bif x1 then bif andI i64 op 7 == 1 then (rSum a b f.2.2.2.2.2.2).2.2.2 else (rSum a b false).2.2.2 else x2 && bif andI i64 op 7 == 3 then (Zcd a b f.2.2.2.2.2.2).2.2.2 else (Zcd a b false).2.2.2)
 .br (andI i64 op 7 == 7) (.leaf ((a, x8))) (.leaf ((x3, x8)))
def rDo (chip : Int) (op : Int) (a : Int) (b : Int) (f : TF) : QT3 := (rDoT chip op a b f).val
def rDoE : Entry := Zf ZVf ZVg (fun _ => none) (fun a => rDo a.1 a.2.1 a.2.2.1 a.2.2.2.1 a.2.2.2.2)
theorem ZVe : Zc Tryz.prog 208 rDoE :=
 pureQ 1246707057321695066193919 [(146, rOnE), (260, ZOY), (261, ZC6), (262, rOfE), (263, Zvd), (264, ZFn)] [] ZVf ZVg ⟨ZdF, ZxO, ZrC, ZCN, Zj7, ZlN, trivial⟩ Tryz.func208 Tryz.call208 trivial (t := fun a => rDoT a.1 a.2.1 a.2.2.1 a.2.2.2.1 a.2.2.2.2) (fun a => by kernel_rfl)
abbrev ZRs : List Sh := [Sh.one (R.int i64), Sh.one (R.int u8), Sh.agg rcF7]
abbrev ZRt : Rs := Rs.tup [Sh.one (R.int u8), Sh.agg rcF7]
def ZS5 (chip : Int) (v : Int) (f : TF) : RT (QT3) :=
 .leaf (((rSum v 1 false).1, Zob chip ((rOf (rSum v 1 false).1).1, (rOf (rSum v 1 false).1).2.1, (rOf (rSum v 1 false).1).2.2.1, (rSum v 1 false).2.2.1, (rOf (rSum v 1 false).1).2.2.2.2.1, (rOf (rSum v 1 false).1).2.2.2.2.2.1, f.2.2.2.2.2.2) (rMaj (decide (v ≥ 128)) false (decide ((rSum v 1 false).1 ≥ 128))) (rSum v 1 false).2.2.2))
def rInr (chip : Int) (v : Int) (f : TF) : QT3 := (ZS5 chip v f).val
def ZVb : Entry := Zf ZRs ZRt (fun _ => none) (fun a => rInr a.1 a.2.1 a.2.2)
theorem ZS4 : Zc Tryz.prog 218 ZVb :=
 pureQ 8191 [(260, ZOY), (262, rOfE), (263, Zvd), (264, ZFn)] [] ZRs ZRt ⟨ZxO, ZCN, Zj7, ZlN, trivial⟩ Tryz.func218 Tryz.call218 trivial (t := fun a => ZS5 a.1 a.2.1 a.2.2) (fun a => by kernel_rfl)
abbrev ZRz : List Sh := [Sh.one (R.int i64), Sh.one (R.int u8), Sh.agg rcF7]
abbrev ZRA : Rs := Rs.tup [Sh.one (R.int u8), Sh.agg rcF7]
def ZTe (chip : Int) (v : Int) (f : TF) : RT (QT3) :=
 .leaf (((Zcd v 1 false).1, Zob chip ((rOf (Zcd v 1 false).1).1, (rOf (Zcd v 1 false).1).2.1, (rOf (Zcd v 1 false).1).2.2.1, (Zcd v 1 false).2.2.1, (rOf (Zcd v 1 false).1).2.2.2.2.1, (rOf (Zcd v 1 false).1).2.2.2.2.2.1, f.2.2.2.2.2.2) (rMaj (decide (v ≥ 128)) true (decide ((Zcd v 1 false).1 ≥ 128))) (Zcd v 1 false).2.2.2))
def rDcr (chip : Int) (v : Int) (f : TF) : QT3 := (ZTe chip v f).val
def ZVh : Entry := Zf ZRz ZRA (fun _ => none) (fun a => rDcr a.1 a.2.1 a.2.2)
theorem ZTd : Zc Tryz.prog 219 ZVh :=
 pureQ 8191 [(261, ZC6), (262, rOfE), (263, Zvd), (264, ZFn)] [] ZRz ZRA ⟨ZrC, ZCN, Zj7, ZlN, trivial⟩ Tryz.func219 Tryz.call219 trivial (t := fun a => ZTe a.1 a.2.1 a.2.2) (fun a => by kernel_rfl)
abbrev ZRq : List Sh := [Sh.one (R.int i64), Sh.one (R.int u16), Sh.agg rcF7]
abbrev ZRr : Rs := Rs.tup [Sh.one (R.int u16), Sh.agg rcF7]
def ZS2 (chip : Int) (v : Int) (f : TF) : RT (QT3) :=
 .leaf ((u16.wrap (v + 1), f.1, f.2.1, bif rOn chip then v == 65535 else f.2.2.1, f.2.2.2))
def rInx (chip : Int) (v : Int) (f : TF) : QT3 := (ZS2 chip v f).val
def ZS3 : Entry := Zf ZRq ZRr (fun _ => none) (fun a => rInx a.1 a.2.1 a.2.2)
theorem ZS1 : Zc Tryz.prog 209 ZS3 :=
 pureQ 255 [(146, rOnE)] [] ZRq ZRr ⟨ZdF, trivial⟩ Tryz.func209 Tryz.call209 trivial (t := fun a => ZS2 a.1 a.2.1 a.2.2) (fun a => by kernel_rfl)
abbrev ZRx : List Sh := [Sh.one (R.int i64), Sh.one (R.int u16), Sh.agg rcF7]
abbrev ZRy : Rs := Rs.tup [Sh.one (R.int u16), Sh.agg rcF7]
def ZTb (chip : Int) (v : Int) (f : TF) : RT (QT3) :=
 .leaf ((u16.wrap (v - 1), f.1, f.2.1, bif rOn chip then v == 0 else f.2.2.1, f.2.2.2))
def rDcx (chip : Int) (v : Int) (f : TF) : QT3 := (ZTb chip v f).val
def ZTc : Entry := Zf ZRx ZRy (fun _ => none) (fun a => rDcx a.1 a.2.1 a.2.2)
theorem ZTa : Zc Tryz.prog 210 ZTc :=
 pureQ 255 [(146, rOnE)] [] ZRx ZRy ⟨ZdF, trivial⟩ Tryz.func210 Tryz.call210 trivial (t := fun a => ZTb a.1 a.2.1 a.2.2) (fun a => by kernel_rfl)
abbrev ZRB : List Sh := [Sh.one (R.int i64), Sh.one (R.int u16), Sh.one (R.int u16), Sh.agg rcF7]
abbrev ZRC : Rs := Rs.tup [Sh.one (R.int u16), Sh.agg rcF7]
def ZTg (chip : Int) (a : Int) (b : Int) (f : TF) : RT (QT3) :=
 .leaf ((u16.wrap (a + b), f.1, f.2.1, f.2.2.1, f.2.2.2.1, f.2.2.2.2.1, bif rOn chip then decide (i64.wrap (i64.wrap (IntKind.i16.wrap a) + i64.wrap (IntKind.i16.wrap b)) < -32768) || decide (i64.wrap (i64.wrap (IntKind.i16.wrap a) + i64.wrap (IntKind.i16.wrap b)) > 32767) else f.2.2.2.2.2.1, decide (i64.wrap (i64.wrap a + i64.wrap b) > 65535)))
def rDad (chip : Int) (a : Int) (b : Int) (f : TF) : QT3 := (ZTg chip a b f).val
def ZTh : Entry := Zf ZRB ZRC (fun _ => none) (fun a => rDad a.1 a.2.1 a.2.2.1 a.2.2.2)
theorem ZTf : Zc Tryz.prog 211 ZTh :=
 pureQ 2047 [(146, rOnE)] [] ZRB ZRC ⟨ZdF, trivial⟩ Tryz.func211 Tryz.call211 trivial (t := fun a => ZTg a.1 a.2.1 a.2.2.1 a.2.2.2) (fun a => by kernel_rfl)
abbrev ZKw : List Sh := [Sh.one (R.int u16), Sh.one (R.int u16)]
abbrev ZKy : Rs := Rs.tup [Sh.one (R.int u16), Sh.agg rcF7]
def ZKx (a : Int) (b : Int) : RT (QT3) :=
 let x1 := Zcd (u8.wrap (shrI u16 a 8)) (u8.wrap (shrI u16 b 8)) (Zcd (u8.wrap a) (u8.wrap b) false).2.1
 let x2 := x1.1
 let x3 := x2 == 0
 let x4 := Zcp x2 (Zcd (u8.wrap a) (u8.wrap b) false).1
 let x5 := decide (x2 ≥ 128)
 let x6 := rMaj (decide (a ≥ 32768)) (decide (b < 32768)) x5
 let x7 := x1.2
 let x8 := x7.2
 let x9 := x8.1
 let x10 := Zk7 x2
 let x11 := x8.2
 let x12 := x7.1
 .leaf ((bif x3 then x4 else x4, bif x3 then x5 else x5, x3 && (Zcd (u8.wrap a) (u8.wrap b) false).1 == 0, bif x3 then x6 else x6, bif x3 then x9 else x9, bif x3 then x10 else x10, bif x3 then x11 else x11, bif x3 then x12 else x12))
def Zvm (a : Int) (b : Int) : QT3 := (ZKx a b).val
def ZKz : Entry := Zf ZKw ZKy (fun _ => none) (fun a => Zvm a.1 a.2)
theorem ZPn : Zc Tryz.prog 214 ZKz :=
 pureQ 16383 [(172, ZlR), (261, ZC6), (264, ZFn), (266, ZqE)] [] ZKw ZKy ⟨ZhJ, ZrC, ZlN, ZoY, trivial⟩ Tryz.func214 Tryz.call214 trivial (t := fun a => ZKx a.1 a.2) (fun a => by kernel_rfl)
abbrev ZRD : List Sh := [Sh.one (R.int i64), Sh.one (R.int u8), Sh.agg rcF7]
abbrev ZRE : Rs := Rs.tup [Sh.one (R.int u8), Sh.agg rcF7]
def ZTj (chip : Int) (a : Int) (f : TF) : RT (QT3) :=
 let x1 : Int := bif f.2.2.2.1 || decide (andI u8 a 15 > 9) then 6 else 0
 let x2 := rSum a (bif f.2.2.2.2.2.2 || decide (a > 153) then u8.wrap (x1 + 96) else x1) false
 let x3 := x2.1
 let x4 := rOf x3
 let x5 := x4.2
 let x6 := x5.2
 let x7 := x2.2.2
 let x8 := x6.2.2
 .leaf ((x3, Zob chip (x4.1, x5.1, x6.1, x7.1, x8.1, x8.2.1, f.2.2.2.2.2.2 || decide (a > 153)) (rMaj (decide (a ≥ 128)) false (decide (x3 ≥ 128))) x7.2))
def rDaa (chip : Int) (a : Int) (f : TF) : QT3 := (ZTj chip a f).val
def ZTk : Entry := Zf ZRD ZRE (fun _ => none) (fun a => rDaa a.1 a.2.1 a.2.2)
theorem ZTi : Zc Tryz.prog 212 ZTk :=
 pureQ 32767 [(260, ZOY), (262, rOfE), (263, Zvd), (264, ZFn)] [] ZRD ZRE ⟨ZxO, ZCN, Zj7, ZlN, trivial⟩ Tryz.func212 Tryz.call212 trivial (t := fun a => ZTj a.1 a.2.1 a.2.2) (fun a => by kernel_rfl)
abbrev ZJv : List Sh := [Sh.one (R.int i64), Sh.one (R.int u8), Sh.one R.bool]
abbrev ZCs : Rs := Rs.tup [Sh.one (R.int u8), Sh.one R.bool]
def ZJw (op : Int) (a : Int) (c : Bool) : RT (Option (Int × Bool)) :=
 .br (andI i64 op 3 == 0 || (andI i64 op 3 == 1 || (!andI i64 op 3 == 2 || Zdj c 0))) (.br (andI i64 op 3 == 0) (.leaf (some ((orI u8 (shlI u8 a 1) (shrI u8 a 7), decide (a ≥ 128))))) (.br (andI i64 op 3 == 1) (.leaf (some ((orI u8 (shrI u8 a 1) (shlI u8 a 7), andI u8 a 1 == 1)))) (.br (andI i64 op 3 == 2) (.leaf (some ((orI u8 (shlI u8 a 1) (rBit c 0), decide (a ≥ 128))))) (.br (Zdj c 7) (.leaf (some ((orI u8 (shrI u8 a 1) (rBit c 7), andI u8 a 1 == 1)))) (.leaf none))))) (.leaf none)
def rRot (op : Int) (a : Int) (c : Bool) : Int × Bool := getO ZCs.dflt (ZJw op a c).val
def ZSU (op : Int) (a : Int) (c : Bool) : Bool := okB (ZJw op a c).val
def rRotE : Entry := Zf ZJv ZCs (fun a => some (ZSU a.1 a.2.1 a.2.2)) (fun a => rRot a.1 a.2.1 a.2.2)
theorem ZST : Zc Tryz.prog 213 rRotE :=
 pureP 537396479 [(265, ZPq)] [] ZJv ZCs ⟨Zy4, trivial⟩ Tryz.func213 Tryz.call213 trivial (t := fun a => ZJw a.1 a.2.1 a.2.2) (fun a => by kernel_rfl)
abbrev ZKL : List Sh := [Sh.one (R.int u16)]
abbrev ZKM : Rs := Rs.tup [Sh.one (R.int u16), Sh.one R.bool]
def ZRJ (v : Int) : RT (Int × Bool) :=
 .leaf ((orI u16 (shrI u16 v 1) (andI u16 v 32768), andI u16 v 1 == 1))
def ZrG (v : Int) : Int × Bool := (ZRJ v).val
def ZKN : Entry := Zf ZKL ZKM (fun _ => none) (fun a => ZrG a)
theorem ZPr : Zc Tryz.prog 215 ZKN :=
 pureQ 15 [] [] ZKL ZKM trivial Tryz.func215 Tryz.call215 trivial (t := fun a => ZRJ a) (fun a => by kernel_rfl)
abbrev ZxW : List Sh := [Sh.one (R.int u16), Sh.one R.bool]
abbrev ZqA : Rs := Rs.tup [Sh.one (R.int u16), Sh.one R.bool, Sh.one R.bool]
def Zu5 (v : Int) (c : Bool) : RT (Option (Int × Bool × Bool)) :=
 .br (Zdj c 0) (.leaf (some ((orI u16 (shlI u16 v 1) (u16.wrap (rBit c 0)), decide (v ≥ 32768), andI u16 (orI u16 (shlI u16 v 1) (u16.wrap (rBit c 0))) 32768 != andI u16 v 32768)))) (.leaf none)
def Zu6 (v : Int) (c : Bool) : Int × Bool × Bool := getO ZqA.dflt (Zu5 v c).val
def ZJE (v : Int) (c : Bool) : Bool := okB (Zu5 v c).val
def ZU1 : Entry := Zf ZxW ZqA (fun a => some (ZJE a.1 a.2)) (fun a => Zu6 a.1 a.2)
theorem ZO2 : Zc Tryz.prog 216 ZU1 :=
 pureP 255 [(265, ZPq)] [] ZxW ZqA ⟨Zy4, trivial⟩ Tryz.func216 Tryz.call216 trivial (t := fun a => Zu5 a.1 a.2) (fun a => by kernel_rfl)
abbrev ZC8 : List Sh := [Sh.one R.bool, Sh.one (R.int i64)]
abbrev ZrE : Rs := Rs.one (Sh.one (R.int u8))
def Zy5 (b : Bool) (n : Int) : RT (Option (Int)) :=
 .br (decide (0 ≤ n)) (.leaf (some (u8.wrap (shlI i64 (rOne b) n)))) (.leaf none)
def ZfF (b : Bool) (n : Int) : Int := getO ZrE.dflt (Zy5 b n).val
def Zas (b : Bool) (n : Int) : Bool := okB (Zy5 b n).val
def ZKJ : Entry := Zf ZC8 ZrE (fun a => some (Zas a.1 a.2)) (fun a => ZfF a.1 a.2)
theorem ZKI : Zc Tryz.prog 217 ZKJ :=
 pureP 31 [(267, ZPd)] [] ZC8 ZrE ⟨Zx3, trivial⟩ Tryz.func217 Tryz.call217 trivial (t := fun a => Zy5 a.1 a.2) (fun a => by kernel_rfl)
abbrev ZJy : List Sh := [Sh.agg Zx, Sh.agg (R.pair R.bool (R.pair R.bool rcF7))]
abbrev ZCt : Rs := Rs.tup [Sh.one (R.int u8), Sh.agg Zx]
def ZJz (c : TC) (l : QT0) : RT (Option (Int × TC)) :=
 let x1 := bif c.2.2.2.2.2.2.2.2.2.2.1 then c.2.2.2.2.2.2.2.2.2.2.2.1 else c.2.2.1
 .br (!Zas l.2.2.2.1 7 || (!Zas c.2.2.2.2.2.2.2.1 6 || (!Zas l.2.2.2.2.2.2.1 5 || (!Zas l.2.2.2.2.2.2.2.1 4 || Zas x1 3)))) (.br (!Zas l.2.2.2.1 7 || (!Zas c.2.2.2.2.2.2.2.1 6 || (!Zas l.2.2.2.2.2.2.1 5 || Zas l.2.2.2.2.2.2.2.1 4))) (.br (!Zas l.2.2.2.1 7 || (!Zas c.2.2.2.2.2.2.2.1 6 || Zas l.2.2.2.2.2.2.1 5)) (.br (!Zas l.2.2.2.1 7 || Zas c.2.2.2.2.2.2.2.1 6) (.br (Zas l.2.2.2.1 7) (.leaf (some ((orI u8 (orI u8 (orI u8 (orI u8 (orI u8 (ZfF l.2.2.2.1 7) (ZfF c.2.2.2.2.2.2.2.1 6)) (ZfF l.2.2.2.2.2.2.1 5)) (ZfF l.2.2.2.2.2.2.2.1 4)) (ZfF x1 3)) (andI u8 c.2.2.2.2.2.1 7), c.1, c.2.1, c.2.2.1, c.2.2.2.1, c.2.2.2.2.1, c.2.2.2.2.2.1, c.2.2.2.2.2.2.1, c.2.2.2.2.2.2.2.1, c.2.2.2.2.2.2.2.2.1, c.2.2.2.2.2.2.2.2.2.1, false, false, c.2.2.2.2.2.2.2.2.2.2.2.2)))) (.leaf none)) (.leaf none)) (.leaf none)) (.leaf none)) (.leaf none)
def rRim (c : TC) (l : QT0) : Int × TC := getO ZCt.dflt (ZJz c l).val
def ZSW (c : TC) (l : QT0) : Bool := okB (ZJz c l).val
def rRimE : Entry := Zf ZJy ZCt (fun a => some (ZSW a.1 a.2)) (fun a => rRim a.1 a.2)
theorem ZSV : Zc Tryz.prog 159 rRimE :=
 pureP 255 [(217, ZKJ)] [] ZJy ZCt ⟨ZKI, trivial⟩ Tryz.func159 Tryz.call159 trivial (t := fun a => ZJz a.1 a.2) (fun a => by kernel_rfl)
abbrev ZQ9 : List Sh := [Sh.agg Zx, Sh.one (R.int u8)]
abbrev ZRa : Rs := Rs.one (Sh.agg Zx)
def ZJp (c : TC) (a : Int) : RT TC :=
 .leaf ((c.1, c.2.1, c.2.2.1, c.2.2.2.1, c.2.2.2.2.1, bif andI u8 a 8 != 0 then andI u8 a 7 else c.2.2.2.2.2.1, c.2.2.2.2.2.2.1, !andI u8 a 16 != 0 && c.2.2.2.2.2.2.2.1, c.2.2.2.2.2.2.2.2.1, c.2.2.2.2.2.2.2.2.2.1, c.2.2.2.2.2.2.2.2.2.2.1, c.2.2.2.2.2.2.2.2.2.2.2.1, bif andI u8 a 64 != 0 then andI u8 a 128 != 0 else c.2.2.2.2.2.2.2.2.2.2.2.2))
def rSim (c : TC) (a : Int) : TC := (ZJp c a).val
def ZU0 : Entry := Zf ZQ9 ZRa (fun _ => none) (fun a => rSim a.1 a.2)
theorem ZSR : Zc Tryz.prog 160 ZU0 :=
 pureQ 31 [] [] ZQ9 ZRa trivial Tryz.func160 Tryz.call160 trivial (t := fun a => ZJp a.1 a.2) (fun a => by kernel_rfl)
abbrev ZCV : List Sh := [Sh.one (R.int i64), Sh.agg rcF7]
abbrev ZCW : Rs := Rs.one (Sh.one R.bool)
def ZyO (c : Int) (f : TF) : RT (Bool) :=
 .br (c == 0) (.leaf (!f.2.1)) (.br (c == 1) (.leaf f.2.1) (.br (c == 2) (.leaf (!f.2.2.2.2.2.2)) (.br (c == 3) (.leaf f.2.2.2.2.2.2) (.br (c == 4) (.leaf (!f.2.2.2.2.1)) (.br (c == 5) (.leaf f.2.2.2.2.1) (.br (c == 6) (.leaf (!f.1)) (.br (c == 7) (.leaf f.1) (.br (c == 8) (.leaf (!f.2.2.1)) (.br (c == 9) (.leaf f.2.2.1) (.br (c == 10) (.leaf f.2.2.2.2.2.1) (.leaf (c == 11))))))))))))
def Zd1 (c : Int) (f : TF) : Bool := (ZyO c f).val
def ZKe : Entry := Zf ZCV ZCW (fun _ => none) (fun a => Zd1 a.1 a.2)
theorem ZKd : Zc Tryz.prog 220 ZKe :=
 pureQ 2397219371124831 [] [] ZCV ZCW trivial Tryz.func220 Tryz.call220 trivial (t := fun a => ZyO a.1 a.2) (fun a => by kernel_rfl)
abbrev ZuN : List Sh := [Sh.one (R.int i64)]
abbrev ZuO : Rs := Rs.one (Sh.one (R.int u16))
def Zqp (s : Int) : RT (Int) :=
 .br (s == 1) (.leaf (36)) (.br (s == 2) (.leaf (60)) (.br (s == 3) (.leaf (52)) (.br (s == 4) (.leaf (44)) (.leaf (0)))))
def Zi (s : Int) : Int := (Zqp s).val
def ZCk : Entry := Zf ZuN ZuO (fun _ => none) (fun a => Zi a)
theorem ZE0 : Zc Tryz.prog 152 ZCk :=
 pureQ 1367 [] [] ZuN ZuO trivial Tryz.func152 Tryz.call152 trivial (t := fun a => Zqp a) (fun a => by kernel_rfl)
abbrev ZlS : List Sh := [Sh.one (R.int i64)]
abbrev ZlT : Rs := Rs.one (Sh.one R.bool)
def ZiD (s : Int) : RT (Bool) :=
 .leaf (decide (s ≥ 1) && decide (s ≤ 4))
def Zb (s : Int) : Bool := (ZiD s).val
def Zgh : Entry := Zf ZlS ZlT (fun _ => none) (fun a => Zb a)
theorem ZfC : Zc Tryz.prog 104 Zgh :=
 pureQ 7 [] [] ZlS ZlT trivial Tryz.func104 Tryz.call104 trivial (t := fun a => ZiD a) (fun a => by kernel_rfl)
abbrev ZoP : List Sh := [Sh.one (R.int u8)]
abbrev ZoQ : Rs := Rs.tup [Sh.agg (R.pair (R.int i64) (R.pair (R.int i64) (R.pair (R.int i64) (R.pair (R.int i64) (R.pair (R.int i64) (R.pair (R.int i64) (R.pair (R.int i64) (R.int i64)))))))), Sh.one R.bool]
def ZuX (op : Int) : RT (TI × Bool) :=
 .br (op == 8) (.leaf (((40, 1, 0, 0, 0, 0, 0, 0), true))) (.br (op == 16) (.leaf (((41, 1, 0, 0, 0, 0, 0, 0), true))) (.br (op == 24) (.leaf (((42, 1, 0, 0, 0, 0, 0, 0), true))) (.br (op == 32) (.leaf (((38, 1, 0, 0, 0, 0, 0, 0), true))) (.br (op == 40) (.leaf (((43, 2, 0, 0, 0, 0, 0, 0), true))) (.br (op == 48) (.leaf (((39, 1, 0, 0, 0, 0, 0, 0), true))) (.br (op == 56) (.leaf (((44, 2, 0, 0, 0, 0, 0, 0), true))) (.br (op == 203) (.leaf (((45, 1, 0, 0, 0, 0, 10, 0), true))) (.br (op == 217) (.leaf (((46, 1, 0, 0, 0, 0, 0, 0), true))) (.br (op == 221) (.leaf (((24, 3, 0, 0, 0, 0, 8, 0), true))) (.br (op == 237) (.leaf (((47, 1, 0, 0, 0, 0, 0, 0), true))) (.br (op == 253) (.leaf (((24, 3, 0, 0, 0, 0, 9, 0), true))) (.leaf (((0, 0, 0, 0, 0, 0, 0, 0), false))))))))))))))
def Zqw (op : Int) : TI × Bool := (ZuX op).val
def ZuY : Entry := Zf ZoP ZoQ (fun _ => none) (fun a => Zqw a)
theorem ZxP : Zc Tryz.prog 173 ZuY :=
 pureQ 314146179375 [] [] ZoP ZoQ trivial Tryz.func173 Tryz.call173 trivial (t := fun a => ZuX a) (fun a => by kernel_rfl)
abbrev ZJW : List Sh := [Sh.one (R.int i64), Sh.one (R.int i64), Sh.one (R.int i64), Sh.one (R.int i64)]
abbrev Zx4 : Rs := Rs.one (Sh.agg (R.pair (R.int i64) (R.pair (R.int i64) (R.pair (R.int i64) (R.pair (R.int i64) (R.pair (R.int i64) (R.pair (R.int i64) (R.pair (R.int i64) (R.int i64)))))))))
def ZJX (y : Int) (z : Int) (p : Int) (q : Int) : RT (Option TI) :=
 let x1 := decide (0 ≤ i64.wrap (y - 4) ∧ i64.wrap (y - 4) < 4)
 .br (z == 0) (.leaf (some ((1, 1, 0, 0, 0, 0, 0, 0)))) (.br (z == 1) (.br (q == 0) (.leaf (some ((4, 3, 0, 0, p, 0, 0, 0)))) (.leaf (some ((18, 1, 0, 0, p, 0, 0, 0))))) (.br (!z == 2 || ((bif y == 0 then y == 0 else y == 2) || ((bif y == 1 then y == 1 else y == 3) || x1))) (.br (z == 2) (.br (bif y == 0 then y == 0 else y == 2) (.leaf (some ((10, 1, 0, 0, p, 0, 0, 0)))) (.br (bif y == 1 then y == 1 else y == 3) (.leaf (some ((9, 1, 0, 0, p, 0, 0, 0)))) (.leaf (some ((bif i64.wrap (y - 4) == 0 then 8 else bif i64.wrap (y - 4) == ↑(0 + 1) then 7 else bif i64.wrap (y - 4) == ↑(0 + 1 + 1) then 6 else 5, 3, 0, 0, 0, 0, 0, 0)))))) (.br (!z == 3 || decide (0 ≤ q ∧ q < 2)) (.br (z == 3) (.leaf (some ((bif q == 0 then 16 else 17, 1, 0, 0, p, 0, 0, 0)))) (.br (z == 4) (.leaf (some ((14, 1, y, 0, 0, 0, 0, 0)))) (.br (z == 5) (.leaf (some ((15, 1, y, 0, 0, 0, 0, 0)))) (.br (z == 6) (.leaf (some ((3, 2, y, 0, 0, 0, 0, 0)))) (.br (decide (y < 4)) (.leaf (some ((23, 1, 0, 0, 0, y, 0, 0)))) (.br (x1) (.leaf (some ((bif i64.wrap (y - 4) == 0 then 19 else bif i64.wrap (y - 4) == ↑(0 + 1) then 20 else bif i64.wrap (y - 4) == ↑(0 + 1 + 1) then 21 else 22, 1, 0, 0, 0, 0, 0, 0)))) (.leaf none))))))) (.leaf none))) (.leaf none)))
def ZU6 (y : Int) (z : Int) (p : Int) (q : Int) : QT5 := getO Zx4.dflt (ZJX y z p q).val
def ZRk (y : Int) (z : Int) (p : Int) (q : Int) : Bool := okB (ZJX y z p q).val
def ZRj : Entry := Zf ZJW Zx4 (fun a => some (ZRk a.1 a.2.1 a.2.2.1 a.2.2.2)) (fun a => ZU6 a.1 a.2.1 a.2.2.1 a.2.2.2)
theorem ZPe : Zc Tryz.prog 174 ZRj :=
 pureP 19211217472071167 [] [] ZJW Zx4 trivial Tryz.func174 Tryz.call174 trivial (t := fun a => ZJX a.1 a.2.1 a.2.2.1 a.2.2.2) (fun a => by kernel_rfl)
abbrev ZCM : List Sh := [Sh.one (R.int i64), Sh.one (R.int i64), Sh.one (R.int i64), Sh.one (R.int i64)]
abbrev ZqG : Rs := Rs.one (Sh.agg (R.pair (R.int i64) (R.pair (R.int i64) (R.pair (R.int i64) (R.pair (R.int i64) (R.pair (R.int i64) (R.pair (R.int i64) (R.pair (R.int i64) (R.int i64)))))))))
def Zx5 (y : Int) (z : Int) (p : Int) (q : Int) : RT (Option TI) :=
 .br (z == 0) (.leaf (some ((26, 1, 0, 0, 0, 0, y, 0)))) (.br (z == 1) (.br (q == 0) (.leaf (some ((31, 1, 0, 0, p, 0, 0, 0)))) (.br (y == 5) (.leaf (some ((28, 1, 0, 0, 0, 0, 0, 0)))) (.br (y == 7) (.leaf (some ((29, 1, 0, 0, 0, 0, 0, 0)))) (.leaf (some ((26, 1, 0, 0, 0, 0, 11, 0))))))) (.br (z == 2 || (!z == 3 || ((bif y == 0 then y == 0 else y == 1) || (y == 2 || (y == 3 || decide (0 ≤ i64.wrap (y - 4) ∧ i64.wrap (y - 4) < 4)))))) (.br (z == 2) (.leaf (some ((24, 3, 0, 0, 0, 0, y, 0)))) (.br (z == 3) (.br (bif y == 0 then y == 0 else y == 1) (.leaf (some ((24, 3, 0, 0, 0, 0, 11, 0)))) (.br (y == 2) (.leaf (some ((34, 2, 0, 0, 0, 0, 0, 0)))) (.br (y == 3) (.leaf (some ((33, 2, 0, 0, 0, 0, 0, 0)))) (.leaf (some ((bif i64.wrap (y - 4) == 0 then 32 else bif i64.wrap (y - 4) == ↑(0 + 1) then 11 else bif i64.wrap (y - 4) == ↑(0 + 1 + 1) then 36 else 35, 1, 0, 0, 0, 0, 0, 0))))))) (.br (z == 4) (.leaf (some ((25, 3, 0, 0, 0, 0, y, 0)))) (.br (z == 5) (.br (q == 0) (.leaf (some ((30, 1, 0, 0, p, 0, 0, 0)))) (.leaf (some ((25, 3, 0, 0, 0, 0, 11, 0))))) (.br (z == 6) (.leaf (some ((13, 2, 0, 0, 0, y, 0, 0)))) (.leaf (some ((27, 1, 0, 0, 0, 0, 0, y))))))))) (.leaf none)))
def ZRl (y : Int) (z : Int) (p : Int) (q : Int) : QT5 := getO ZqG.dflt (Zx5 y z p q).val
def ZJ0 (y : Int) (z : Int) (p : Int) (q : Int) : Bool := okB (Zx5 y z p q).val
def ZJZ : Entry := Zf ZCM ZqG (fun a => some (ZJ0 a.1 a.2.1 a.2.2.1 a.2.2.2)) (fun a => ZRl a.1 a.2.1 a.2.2.1 a.2.2.2)
theorem ZJY : Zc Tryz.prog 175 ZJZ :=
 pureP 2324988294374376959 [] [] ZCM ZqG trivial Tryz.func175 Tryz.call175 trivial (t := fun a => Zx5 a.1 a.2.1 a.2.2.1 a.2.2.2) (fun a => by kernel_rfl)
abbrev ZhK : List Sh := [Sh.one (R.int i64), Sh.one (R.int u8)]
abbrev ZhL : Rs := Rs.one (Sh.agg (R.pair (R.int i64) (R.pair (R.int i64) (R.pair (R.int i64) (R.pair (R.int i64) (R.pair (R.int i64) (R.pair (R.int i64) (R.pair (R.int i64) (R.int i64)))))))))
def ZeS (chip : Int) (op : Int) : RT (Option TI) :=
 .br ((Zqw op).2 && rOn chip) (.leaf (some (Zqw op).1)) (.br (!shrI u8 op 6 == 0 || ZRk (i64.wrap (andI u8 (shrI u8 op 3) 7)) (i64.wrap (andI u8 op 7)) (shrI i64 (i64.wrap (andI u8 (shrI u8 op 3) 7)) 1) (andI i64 (i64.wrap (andI u8 (shrI u8 op 3) 7)) 1)) (.br (shrI u8 op 6 == 0) (.leaf (some (ZU6 (i64.wrap (andI u8 (shrI u8 op 3) 7)) (i64.wrap (andI u8 op 7)) (shrI i64 (i64.wrap (andI u8 (shrI u8 op 3) 7)) 1) (andI i64 (i64.wrap (andI u8 (shrI u8 op 3) 7)) 1)))) (.br (shrI u8 op 6 == 1) (.br (op == 118) (.leaf (some ((37, 1, 0, 0, 0, 0, 0, 0)))) (.leaf (some ((2, 1, i64.wrap (andI u8 (shrI u8 op 3) 7), i64.wrap (andI u8 op 7), 0, 0, 0, 0))))) (.br (shrI u8 op 6 == 2) (.leaf (some ((12, 1, 0, i64.wrap (andI u8 op 7), 0, i64.wrap (andI u8 (shrI u8 op 3) 7), 0, 0)))) (.br (ZJ0 (i64.wrap (andI u8 (shrI u8 op 3) 7)) (i64.wrap (andI u8 op 7)) (shrI i64 (i64.wrap (andI u8 (shrI u8 op 3) 7)) 1) (andI i64 (i64.wrap (andI u8 (shrI u8 op 3) 7)) 1)) (.leaf (some (ZRl (i64.wrap (andI u8 (shrI u8 op 3) 7)) (i64.wrap (andI u8 op 7)) (shrI i64 (i64.wrap (andI u8 (shrI u8 op 3) 7)) 1) (andI i64 (i64.wrap (andI u8 (shrI u8 op 3) 7)) 1)))) (.leaf none))))) (.leaf none))
def Za (chip : Int) (op : Int) : QT5 := getO ZhL.dflt (ZeS chip op).val
def Zkb (chip : Int) (op : Int) : Bool := okB (ZeS chip op).val
def ZPo : Entry := Zf ZhK ZhL (fun a => some (Zkb a.1 a.2)) (fun a => Za a.1 a.2)
theorem ZF4 : Zc Tryz.prog 107 ZPo :=
 pureP 70644158956031 [(146, rOnE), (173, ZuY), (174, ZRj), (175, ZJZ)] [] ZhK ZhL ⟨ZdF, ZxP, ZPe, ZJY, trivial⟩ Tryz.func107 Tryz.call107 trivial (t := fun a => ZeS a.1 a.2) (fun a => by kernel_rfl)
end
end Go.Proofs.YtghoimllhpjkjaaGreat
