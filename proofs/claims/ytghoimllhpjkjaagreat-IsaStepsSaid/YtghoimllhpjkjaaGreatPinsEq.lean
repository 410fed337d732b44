/-
  The pins of a state: the program's are the reference's. Conditions: none.
-/
import Derived.Test.YtghoimllhpjkjaaGreatS3D
import Derived.Test.YtghoimllhpjkjaaGreatProg
open Go.IntKind (u8 u16 i64)
set_option linter.unusedSimpArgs false
open Go Go.S3 Go.Proofs
set_option linter.unusedVariables false
set_option maxRecDepth 100000
namespace Go.Proofs.YtghoimllhpjkjaaGreat
noncomputable section
abbrev Ztn : List Sh := [Sh.one (R.int u8)]
abbrev Zlc : Rs := Rs.one (Sh.one R.bool)
def Zqj (b : Int) : RT (Option (Bool)) :=
 let x1 := andI u8 (andI u8 b (u8.wrap (b - 1))) (u8.wrap (andI u8 b (u8.wrap (b - 1)) - 1))
 let x2 := !x1 != 0
 let x3 := andI u8 x1 (u8.wrap (x1 - 1))
 let x4 := x3 != 0
 let x5 := andI u8 x3 (u8.wrap (x3 - 1))
 let x6 := !x5 != 0
 let x7 := andI u8 x5 (u8.wrap (x5 - 1))
 let x8 := x7 != 0
 let x9 := andI u8 x7 (u8.wrap (x7 - 1))
 let x10 := !x9 != 0
 let x11 := andI u8 x9 (u8.wrap (x9 - 1))
 let x12 := x11 != 0
 let x13 := andI u8 x11 (u8.wrap (x11 - 1))
 let x14 := !x13 != 0
 .br (!b != 0 || (!andI u8 b (u8.wrap (b - 1)) != 0 || (x2 || (!x4 || (x6 || (!x8 || (x10 || (!x12 || (x14 || !andI u8 x13 (u8.wrap (x13 - 1)) != 0))))))))) (.leaf (some (!b != 0 || andI u8 b (u8.wrap (b - 1)) != 0 && (x2 || x4 && (x6 || x8 && (x10 || x12 && x14)))))) (.leaf none)
def Zqk (b : Int) : Bool := getO Zlc.dflt (Zqj b).val
def Zjq (b : Int) : Bool := okB (Zqj b).val
def ZzM : Entry := Zk Ztn Zlc (fun a => some (Zjq a)) (fun a => Zqk a)
theorem ZCo : Zc Tryz.prog 334 ZzM :=
 ZkZ (P := Tryz.prog) (n := 15) (k := 10) (l := []) (ol := []) trivial Tryz.func334 rfl (by kernel_rfl) Tryz.call334 trivial (ts := Ztn) (rs := Zlc) (t := fun a => Zqj a) (fun a => by kernel_rfl)
abbrev ZMJ : List Sh := [Sh.one R.bool, Sh.one R.bool, Sh.one R.bool]
abbrev ZMK : Rs := Rs.one (Sh.one R.bool)
def ZQt (a : Bool) (b : Bool) (c : Bool) : RT (Bool) :=
 .leaf (bif a then b || bif a then c || b && c else b && c else bif a then c || b && c else b && c)
def pMaj (a : Bool) (b : Bool) (c : Bool) : Bool := (ZQt a b c).val
def ZCy : Entry := Zk ZMJ ZMK (fun _ => none) (fun a => pMaj a.1 a.2.1 a.2.2)
theorem ZlP : Zc Tryz.prog 315 ZCy :=
 pureQ 127 [] [] ZMJ ZMK trivial Tryz.func315 Tryz.call315 trivial (t := fun a => ZQt a.1 a.2.1 a.2.2) (fun a => by kernel_rfl)
abbrev ZMG : List Sh := [Sh.one R.bool]
abbrev ZMH : Rs := Rs.one (Sh.one (R.int i64))
def ZQr (b : Bool) : RT (Int) :=
 .br (b) (.leaf (1)) (.leaf (0))
def pOne (b : Bool) : Int := (ZQr b).val
def ZOp : Entry := Zk ZMG ZMH (fun _ => none) (fun a => pOne a)
theorem ZGO : Zc Tryz.prog 332 ZOp :=
 pureQ 7 [] [] ZMG ZMH trivial Tryz.func332 Tryz.call332 trivial (t := fun a => ZQr a) (fun a => by kernel_rfl)
abbrev Zti : List Sh := [Sh.one (R.int i64)]
abbrev Ztj : Rs := Rs.one (Sh.one R.bool)
def Zjn (n : Int) : RT (Bool) :=
 .leaf (decide (n < -128) || decide (n > 127))
def Zk4 (n : Int) : Bool := (Zjn n).val
def Zqd : Entry := Zk Zti Ztj (fun _ => none) (fun a => Zk4 a)
theorem ZnQ : Zc Tryz.prog 333 Zqd :=
 pureQ 7 [] [] Zti Ztj trivial Tryz.func333 Tryz.call333 trivial (t := fun a => Zjn a) (fun a => by kernel_rfl)
abbrev ZMC : List Sh := [Sh.one (R.int u8), Sh.one (R.int u8), Sh.one R.bool]
abbrev ZMD : Rs := Rs.tup [Sh.one (R.int u8), Sh.one R.bool, Sh.one R.bool, Sh.one R.bool]
def ZOc (a : Int) (b : Int) (c : Bool) : RT (QT19) :=
 let x1 := i64.wrap (i64.wrap (i64.wrap a + i64.wrap b) + pOne c)
 .leaf ((u8.wrap x1, decide (x1 > 255), decide (i64.wrap (i64.wrap (i64.wrap (andI u8 a 15) + i64.wrap (andI u8 b 15)) + pOne c) > 15), Zk4 (i64.wrap (i64.wrap (i64.wrap (IntKind.i8.wrap a) + i64.wrap (IntKind.i8.wrap b)) + pOne c))))
def pSum (a : Int) (b : Int) (c : Bool) : QT19 := (ZOc a b c).val
def ZKv : Entry := Zk ZMC ZMD (fun _ => none) (fun a => pSum a.1 a.2.1 a.2.2)
theorem Zwm : Zc Tryz.prog 312 ZKv :=
 pureQ 4095 [(332, ZOp), (333, Zqd)] [] ZMC ZMD ⟨ZGO, ZnQ, trivial⟩ Tryz.func312 Tryz.call312 trivial (t := fun a => ZOc a.1 a.2.1 a.2.2) (fun a => by kernel_rfl)
abbrev ZHp : List Sh := [Sh.one (R.int u8), Sh.one (R.int u8), Sh.one R.bool]
abbrev ZHr : Rs := Rs.tup [Sh.one (R.int u8), Sh.one R.bool, Sh.one R.bool, Sh.one R.bool]
def ZHq (a : Int) (b : Int) (c : Bool) : RT (QT19) :=
 let x1 := i64.wrap (i64.wrap (i64.wrap a - i64.wrap b) - pOne c)
 .leaf ((u8.wrap x1, decide (x1 < 0), decide (i64.wrap (i64.wrap (i64.wrap (i64.wrap (i64.wrap (andI u8 a 15) + 15) - i64.wrap (andI u8 b 15)) + 1) - pOne c) > 15), Zk4 (i64.wrap (i64.wrap (i64.wrap (IntKind.i8.wrap a) - i64.wrap (IntKind.i8.wrap b)) - pOne c))))
def Zgk (a : Int) (b : Int) (c : Bool) : QT19 := (ZHq a b c).val
def Zz5 : Entry := Zk ZHp ZHr (fun _ => none) (fun a => Zgk a.1 a.2.1 a.2.2)
theorem Zrf : Zc Tryz.prog 313 Zz5 :=
 pureQ 4095 [(332, ZOp), (333, Zqd)] [] ZHp ZHr ⟨ZGO, ZnQ, trivial⟩ Tryz.func313 Tryz.call313 trivial (t := fun a => ZHq a.1 a.2.1 a.2.2) (fun a => by kernel_rfl)
abbrev Zxe : List Sh := [Sh.one (R.int u8), Sh.one (R.int u8)]
abbrev Zxf : Rs := Rs.one (Sh.one (R.int u16))
def ZMN (h : Int) (l : Int) : RT (Int) :=
 .leaf (orI u16 (shlI u16 (u16.wrap h) 8) (u16.wrap l))
def ZG2 (h : Int) (l : Int) : Int := (ZMN h l).val
def ZzU : Entry := Zk Zxe Zxf (fun _ => none) (fun a => ZG2 a.1 a.2)
theorem Zjs : Zc Tryz.prog 236 ZzU :=
 pureQ 31 [] [] Zxe Zxf trivial Tryz.func236 Tryz.call236 trivial (t := fun a => ZMN a.1 a.2) (fun a => by kernel_rfl)
abbrev ZMP : List Sh := [Sh.one R.bool, Sh.one (R.int i64)]
abbrev ZHC : Rs := Rs.one (Sh.one (R.int u8))
def ZKY (b : Bool) (n : Int) : RT (Option (Int)) :=
 .br (!b || decide (0 ≤ n)) (.br (b) (.leaf (some (shlI u8 1 n))) (.leaf (some (0)))) (.leaf none)
def pBit (b : Bool) (n : Int) : Int := getO ZHC.dflt (ZKY b n).val
def ZdN (b : Bool) (n : Int) : Bool := okB (ZKY b n).val
def ZQy : Entry := Zk ZMP ZHC (fun a => some (ZdN a.1 a.2)) (fun a => pBit a.1 a.2)
theorem ZOL : Zc Tryz.prog 335 ZQy :=
 pureP 31 [] [] ZMP ZHC trivial Tryz.func335 Tryz.call335 trivial (t := fun a => ZKY a.1 a.2) (fun a => by kernel_rfl)
abbrev ZGL : List Sh := [Sh.one (R.int i64), Sh.agg rcF7]
abbrev Zwx : Rs := Rs.one (Sh.one (R.int u8))
def Zto (chip : Int) (f : TF) : RT (Option (Int)) :=
 let x1 := orI u8 (orI u8 (orI u8 (orI u8 (pBit f.1 7) (pBit f.2.1 6)) (pBit f.2.2.2.1 4)) (pBit f.2.2.2.2.1 2)) (pBit f.2.2.2.2.2.2 0)
 .br (!ZdN f.1 7 || (!ZdN f.2.1 6 || (!ZdN f.2.2.2.1 4 || (!ZdN f.2.2.2.2.1 2 || ZdN f.2.2.2.2.2.2 0)))) (.br (!ZdN f.1 7 || (!ZdN f.2.1 6 || (!ZdN f.2.2.2.1 4 || ZdN f.2.2.2.2.1 2))) (.br (!ZdN f.1 7 || (!ZdN f.2.1 6 || ZdN f.2.2.2.1 4)) (.br (!ZdN f.1 7 || ZdN f.2.1 6) (.br (ZdN f.1 7) (.br (!chip == 2 || (!ZdN f.2.2.1 5 || ZdN f.2.2.2.2.2.1 1)) (.br (!chip == 2 || ZdN f.2.2.1 5) (.br (chip == 2) (.leaf (some (orI u8 (orI u8 x1 (pBit f.2.2.1 5)) (pBit f.2.2.2.2.2.1 1)))) (.leaf (some (orI u8 x1 2)))) (.leaf none)) (.leaf none)) (.leaf none)) (.leaf none)) (.leaf none)) (.leaf none)) (.leaf none)
def ZKG (chip : Int) (f : TF) : Int := getO Zwx.dflt (Zto chip f).val
def ZzN (chip : Int) (f : TF) : Bool := okB (Zto chip f).val
def ZMF : Entry := Zk ZGL Zwx (fun a => some (ZzN a.1 a.2)) (fun a => ZKG a.1 a.2)
theorem ZKF : Zc Tryz.prog 324 ZMF :=
 pureP 63 [(335, ZQy)] [] ZGL Zwx ⟨ZOL, trivial⟩ Tryz.func324 Tryz.call324 trivial (t := fun a => Zto a.1 a.2) (fun a => by kernel_rfl)
abbrev Ztg : List Sh := [Sh.one (R.int i64), Sh.one (R.int u8)]
abbrev Zth : Rs := Rs.one (Sh.agg rcF7)
def Zqb (chip : Int) (b : Int) : RT TF :=
 .leaf ((andI u8 b 128 != 0, andI u8 b 64 != 0, chip == 2 && andI u8 b 32 != 0, andI u8 b 16 != 0, andI u8 b 4 != 0, chip == 2 && andI u8 b 2 != 0, andI u8 b 1 != 0))
def Zqc (chip : Int) (b : Int) : TF := (Zqb chip b).val
def ZzH : Entry := Zk Ztg Zth (fun _ => none) (fun a => Zqc a.1 a.2)
theorem ZCl : Zc Tryz.prog 323 ZzH :=
 pureQ 63 [] [] Ztg Zth trivial Tryz.func323 Tryz.call323 trivial (t := fun a => Zqb a.1 a.2) (fun a => by kernel_rfl)
abbrev ZQs : List Sh := [Sh.one (R.int u8)]
abbrev ZOr : Rs := Rs.one (Sh.agg rcF7)
def pOfT (r : Int) : RT (Option TF) :=
 .br (Zjq r) (.leaf (some ((decide (r ≥ 128), r == 0, false, false, Zqk r, false, false)))) (.leaf none)
def pOf (r : Int) : TF := getO ZOr.dflt (pOfT r).val
def pOfC (r : Int) : Bool := okB (pOfT r).val
def pOfE : Entry := Zk ZQs ZOr (fun a => some (pOfC a)) (fun a => pOf a)
theorem Ztp : Zc Tryz.prog 314 pOfE :=
 pureP 7 [(334, ZzM)] [] ZQs ZOr ⟨ZCo, trivial⟩ Tryz.func314 Tryz.call314 trivial (t := fun a => pOfT a) (fun a => by kernel_rfl)
def Zmu : Entry := .tree (ZN (envX Tryz.prog [] [] 141872468127 8) Tryz.f310)
theorem Zmt : Zc Tryz.prog 310 Zmu := Zaa (P := Tryz.prog) (n := 141872468127) (k := 8) (l := []) (ol := []) trivial Tryz.func310 rfl (by kernel_rfl) Tryz.call310 trivial
abbrev ZHa : List Sh := [Sh.agg Zd0, Sh.one (R.int i64)]
abbrev ZHb : Rs := Rs.one (Sh.one (R.int u8))
def ZOx (r : TR) (n : Int) : RT (Int) :=
 .br (andI i64 n 7 == 0) (.leaf r.2.1) (.br (andI i64 n 7 == 1) (.leaf r.2.2.1) (.br (andI i64 n 7 == 2) (.leaf r.2.2.2.1) (.br (andI i64 n 7 == 3) (.leaf r.2.2.2.2.1) (.br (andI i64 n 7 == 4) (.leaf r.2.2.2.2.2.1) (.br (andI i64 n 7 == 5) (.leaf r.2.2.2.2.2.2.1) (.br (andI i64 n 7 == 7) (.leaf r.1) (.leaf (0))))))))
def pGet (r : TR) (n : Int) : Int := (ZOx r n).val
def ZQv : Entry := Zk ZHa ZHb (fun _ => none) (fun a => pGet a.1 a.2)
theorem ZG9 : Zc Tryz.prog 287 ZQv :=
 pureQ 63 [(310, Zmu)] [] ZHa ZHb ⟨Zmt, trivial⟩ Tryz.func287 Tryz.call287 trivial (t := fun a => ZOx a.1 a.2) (fun a => by kernel_rfl)
abbrev ZGw : List Sh := [Sh.agg Zd0, Sh.one (R.int i64), Sh.one (R.int u8)]
abbrev ZGx : Rs := Rs.one (Sh.agg Zd0)
def ZOf (r : TR) (n : Int) (v : Int) : RT TR :=
 .br (andI i64 n 7 == 0) (.leaf ((r.1, v, r.2.2))) (.br (andI i64 n 7 == 1) (.leaf ((r.1, r.2.1, v, r.2.2.2))) (.br (andI i64 n 7 == 2) (.leaf ((r.1, r.2.1, r.2.2.1, v, r.2.2.2.2))) (.br (andI i64 n 7 == 3) (.leaf ((r.1, r.2.1, r.2.2.1, r.2.2.2.1, v, r.2.2.2.2.2))) (.br (andI i64 n 7 == 4) (.leaf ((r.1, r.2.1, r.2.2.1, r.2.2.2.1, r.2.2.2.2.1, v, r.2.2.2.2.2.2))) (.br (andI i64 n 7 == 5) (.leaf ((r.1, r.2.1, r.2.2.1, r.2.2.2.1, r.2.2.2.2.1, r.2.2.2.2.2.1, v, r.2.2.2.2.2.2.2))) (.br (andI i64 n 7 == 7) (.leaf ((v, r.2))) (.leaf (r))))))))
def pSet (r : TR) (n : Int) (v : Int) : TR := (ZOf r n v).val
def ZQo : Entry := Zk ZGw ZGx (fun _ => none) (fun a => pSet a.1 a.2.1 a.2.2)
theorem ZGv : Zc Tryz.prog 268 ZQo :=
 pureQ 255 [(310, Zmu)] [] ZGw ZGx ⟨Zmt, trivial⟩ Tryz.func268 Tryz.call268 trivial (t := fun a => ZOf a.1 a.2.1 a.2.2) (fun a => by kernel_rfl)
abbrev Zwv : List Sh := [Sh.agg Zd0, Sh.one (R.int i64)]
abbrev Zww : Rs := Rs.one (Sh.one (R.int u16))
def ZGI (r : TR) (n : Int) : RT (Int) :=
 .br (andI i64 n 3 == 3) (.leaf r.2.2.2.2.2.2.2.2.1) (.leaf (ZG2 (pGet r (i64.wrap (2 * andI i64 n 3))) (pGet r (i64.wrap (i64.wrap (2 * andI i64 n 3) + 1)))))
def ZOm (r : TR) (n : Int) : Int := (ZGI r n).val
def ZQq : Entry := Zk Zwv Zww (fun _ => none) (fun a => ZOm a.1 a.2)
theorem ZKE : Zc Tryz.prog 286 ZQq :=
 pureQ 31 [(236, ZzU), (287, ZQv)] [] Zwv Zww ⟨Zjs, ZG9, trivial⟩ Tryz.func286 Tryz.call286 trivial (t := fun a => ZGI a.1 a.2) (fun a => by kernel_rfl)
abbrev ZhS : List Sh := [Sh.agg Zd0, Sh.one (R.int i64), Sh.one (R.int u16)]
abbrev ZhT : Rs := Rs.one (Sh.agg Zd0)
def Zk5 (r : TR) (n : Int) (v : Int) : RT TR :=
 .br (andI i64 n 3 == 3) (.leaf ((r.1, r.2.1, r.2.2.1, r.2.2.2.1, r.2.2.2.2.1, r.2.2.2.2.2.1, r.2.2.2.2.2.2.1, r.2.2.2.2.2.2.2.1, v, r.2.2.2.2.2.2.2.2.2))) (.leaf (pSet (pSet r (i64.wrap (2 * andI i64 n 3)) (u8.wrap (shrI u16 v 8))) (i64.wrap (i64.wrap (2 * andI i64 n 3) + 1)) (u8.wrap v)))
def Zqe (r : TR) (n : Int) (v : Int) : TR := (Zk5 r n v).val
def ZGy : Entry := Zk ZhS ZhT (fun _ => none) (fun a => Zqe a.1 a.2.1 a.2.2)
theorem Zwn : Zc Tryz.prog 269 ZGy :=
 pureQ 127 [(268, ZQo)] [] ZhS ZhT ⟨ZGv, trivial⟩ Tryz.func269 Tryz.call269 trivial (t := fun a => Zk5 a.1 a.2.1 a.2.2) (fun a => by kernel_rfl)
abbrev ZGM : List Sh := [Sh.one (R.int i64), Sh.agg Zd0]
abbrev ZzO : Rs := Rs.one (Sh.one (R.int u16))
def ZKH (chip : Int) (r : TR) : RT (Option (Int)) :=
 .br (ZzN chip r.2.2.2.2.2.2.2.1) (.leaf (some (ZG2 r.1 (ZKG chip r.2.2.2.2.2.2.2.1)))) (.leaf none)
def pPSW (chip : Int) (r : TR) : Int := getO ZzO.dflt (ZKH chip r).val
def ZOo (chip : Int) (r : TR) : Bool := okB (ZKH chip r).val
def pPSWE : Entry := Zk ZGM ZzO (fun a => some (ZOo a.1 a.2)) (fun a => pPSW a.1 a.2)
theorem ZOn : Zc Tryz.prog 290 pPSWE :=
 pureP 31 [(236, ZzU), (324, ZMF)] [] ZGM ZzO ⟨Zjs, ZKF, trivial⟩ Tryz.func290 Tryz.call290 trivial (t := fun a => ZKH a.1 a.2) (fun a => by kernel_rfl)
abbrev Zk6 : List Sh := [Sh.one (R.int i64), Sh.agg Zd0, Sh.one (R.int u16)]
abbrev Zk7 : Rs := Rs.one (Sh.agg Zd0)
def Zqf (chip : Int) (r : TR) (v : Int) : RT TR :=
 .leaf ((u8.wrap (shrI u16 v 8), r.2.1, r.2.2.1, r.2.2.2.1, r.2.2.2.2.1, r.2.2.2.2.2.1, r.2.2.2.2.2.2.1, Zqc chip (u8.wrap v), r.2.2.2.2.2.2.2.2))
def Zwp (chip : Int) (r : TR) (v : Int) : TR := (Zqf chip r v).val
def ZKx : Entry := Zk Zk6 Zk7 (fun _ => none) (fun a => Zwp a.1 a.2.1 a.2.2)
theorem ZCm : Zc Tryz.prog 281 ZKx :=
 pureQ 127 [(323, ZzH)] [] Zk6 Zk7 ⟨ZCl, trivial⟩ Tryz.func281 Tryz.call281 trivial (t := fun a => Zqf a.1 a.2.1 a.2.2) (fun a => by kernel_rfl)
abbrev ZzQ : List Sh := [Sh.one (R.int i64), Sh.one (R.int i64), Sh.one (R.int u8), Sh.one (R.int u8)]
abbrev Zqv : Rs := Rs.tup [Sh.one (R.int u8), Sh.agg rcF7]
def ZlQ (chip : Int) (op : Int) (a : Int) (b : Int) : RT (Option (QT2)) :=
 let x1 : Int := bif op == 4 then andI u8 a b else bif op == 5 then xorI u8 a b else bif op == 6 then orI u8 a b else 0
 let x2 := pOf x1
 let x3 := x2.2
 let x4 := x3.2
 .br (pOfC x1) (.leaf (some ((x1, x2.1, x3.1, bif chip == 2 then pMaj (decide (a ≥ 128)) (decide (b ≥ 128)) (decide (x1 ≥ 128)) else x4.1, op == 4 && (chip == 2 || andI u8 (orI u8 a b) 8 != 0), x4.2.2)))) (.leaf none)
def ZzR (chip : Int) (op : Int) (a : Int) (b : Int) : QT2 := getO Zqv.dflt (ZlQ chip op a b).val
def Zqw (chip : Int) (op : Int) (a : Int) (b : Int) : Bool := okB (ZlQ chip op a b).val
def ZGX : Entry := Zk ZzQ Zqv (fun a => some (Zqw a.1 a.2.1 a.2.2.1 a.2.2.2)) (fun a => ZzR a.1 a.2.1 a.2.2.1 a.2.2.2)
theorem ZGW : Zc Tryz.prog 311 ZGX :=
 pureP 8858394623 [(314, pOfE), (315, ZCy)] [] ZzQ Zqv ⟨Ztp, ZlP, trivial⟩ Tryz.func311 Tryz.call311 trivial (t := fun a => ZlQ a.1 a.2.1 a.2.2.1 a.2.2.2) (fun a => by kernel_rfl)
abbrev ZOA : List Sh := [Sh.one (R.int i64), Sh.one (R.int i64), Sh.one (R.int u8), Sh.one (R.int u8), Sh.agg rcF7]
abbrev ZKR : Rs := Rs.tup [Sh.one (R.int u8), Sh.agg rcF7]
def pDoT (chip : Int) (op : Int) (a : Int) (b : Int) (f : TF) : RT (Option (QT2)) :=
 let x1 := decide (andI i64 op 7 ≥ 4) && decide (andI i64 op 7 ≤ 6)
 let x2 := f.2.2.2.2.2.2 && (andI i64 op 7 == 1 || andI i64 op 7 == 3)
 let x3 := Zgk a b x2
 let x4 := x3.1
 let x5 := pOf x4
 let x6 := x5.2
 let x7 := x6.2
 let x8 := x3.2
 let x9 := x8.2
 let x10 := x7.2.2
 let x11 : TF := (x5.1, x6.1, bif chip == 2 then pMaj (decide (a ≥ 128)) (decide (b < 128)) (decide (x4 ≥ 128)) else x7.1, x9.1, x10.1, bif chip == 2 then x9.2 else x10.2.1, x8.1)
 let x12 := pSum a b x2
 let x13 := x12.1
 let x14 := pOf x13
 let x15 := x14.2
 let x16 := x15.2
 let x17 := x12.2
 let x18 := x17.2
 let x19 := x16.2.2
 let x20 : TF := (x14.1, x15.1, bif chip == 2 then pMaj (decide (a ≥ 128)) (decide (b ≥ 128)) (decide (x13 ≥ 128)) else x16.1, x18.1, x19.1, bif chip == 2 then x18.2 else x19.2.1, x17.1)
 .br (!x1 || Zqw chip (andI i64 op 7) a b) (.br (x1) (.leaf (some (ZzR chip (andI i64 op 7) a b))) (.br (andI i64 op 7 != 0 && andI i64 op 7 != 1) (.br (pOfC x4) (.br (andI i64 op 7 == 7) (.leaf (some ((a, x11)))) (.leaf (some ((x4, x11))))) (.leaf none)) (.br (pOfC x13) (.br (andI i64 op 7 == 7) (.leaf (some ((a, x20)))) (.leaf (some ((x13, x20))))) (.leaf none)))) (.leaf none)
def pDo (chip : Int) (op : Int) (a : Int) (b : Int) (f : TF) : QT2 := getO ZKR.dflt (pDoT chip op a b f).val
def pDoC (chip : Int) (op : Int) (a : Int) (b : Int) (f : TF) : Bool := okB (pDoT chip op a b f).val
def pDoE : Entry := Zk ZOA ZKR (fun a => some (pDoC a.1 a.2.1 a.2.2.1 a.2.2.2.1 a.2.2.2.2)) (fun a => pDo a.1 a.2.1 a.2.2.1 a.2.2.2.1 a.2.2.2.2)
theorem ZQx : Zc Tryz.prog 271 pDoE :=
 pureP 1048575 [(311, ZGX), (312, ZKv), (313, Zz5), (314, pOfE), (315, ZCy)] [] ZOA ZKR ⟨ZGW, Zwm, Zrf, Ztp, ZlP, trivial⟩ Tryz.func271 Tryz.call271 trivial (t := fun a => pDoT a.1 a.2.1 a.2.2.1 a.2.2.2.1 a.2.2.2.2) (fun a => by kernel_rfl)
abbrev Ztm : List Sh := [Sh.one (R.int i64), Sh.one (R.int u8), Sh.one (R.int u8), Sh.one R.bool, Sh.one R.bool, Sh.one R.bool, Sh.agg rcF7]
abbrev Zk9 : Rs := Rs.one (Sh.agg rcF7)
def Zjo (chip : Int) (v : Int) (r : Int) (half : Bool) (over : Bool) (x : Bool) (f : TF) : RT (Option TF) :=
 .br (pOfC r) (.leaf (some (((pOf r).1, (pOf r).2.1, bif chip == 2 then pMaj (decide (v ≥ 128)) x (decide (r ≥ 128)) else (pOf r).2.2.1, half, (pOf r).2.2.2.2.1, bif chip == 2 then over else (pOf r).2.2.2.2.2.1, f.2.2.2.2.2.2)))) (.leaf none)
def Zla (chip : Int) (v : Int) (r : Int) (half : Bool) (over : Bool) (x : Bool) (f : TF) : TF := getO Zk9.dflt (Zjo chip v r half over x f).val
def Zg1 (chip : Int) (v : Int) (r : Int) (half : Bool) (over : Bool) (x : Bool) (f : TF) : Bool := okB (Zjo chip v r half over x f).val
def Zqg : Entry := Zk Ztm Zk9 (fun a => some (Zg1 a.1 a.2.1 a.2.2.1 a.2.2.2.1 a.2.2.2.2.1 a.2.2.2.2.2.1 a.2.2.2.2.2.2)) (fun a => Zla a.1 a.2.1 a.2.2.1 a.2.2.2.1 a.2.2.2.2.1 a.2.2.2.2.2.1 a.2.2.2.2.2.2)
theorem ZnR : Zc Tryz.prog 316 Zqg :=
 pureP 65535 [(314, pOfE), (315, ZCy)] [] Ztm Zk9 ⟨Ztp, ZlP, trivial⟩ Tryz.func316 Tryz.call316 trivial (t := fun a => Zjo a.1 a.2.1 a.2.2.1 a.2.2.2.1 a.2.2.2.2.1 a.2.2.2.2.2.1 a.2.2.2.2.2.2) (fun a => by kernel_rfl)
abbrev ZG6 : List Sh := [Sh.one (R.int i64), Sh.one (R.int u8), Sh.agg rcF7]
abbrev ZzV : Rs := Rs.tup [Sh.one (R.int u8), Sh.agg rcF7]
def ZKM (chip : Int) (v : Int) (f : TF) : RT (Option (QT2)) :=
 .br (Zg1 chip v (pSum v 1 false).1 (pSum v 1 false).2.2.1 (pSum v 1 false).2.2.2 false f) (.leaf (some (((pSum v 1 false).1, Zla chip v (pSum v 1 false).1 (pSum v 1 false).2.2.1 (pSum v 1 false).2.2.2 false f)))) (.leaf none)
def pInr (chip : Int) (v : Int) (f : TF) : QT2 := getO ZzV.dflt (ZKM chip v f).val
def ZOv (chip : Int) (v : Int) (f : TF) : Bool := okB (ZKM chip v f).val
def pInrE : Entry := Zk ZG6 ZzV (fun a => some (ZOv a.1 a.2.1 a.2.2)) (fun a => pInr a.1 a.2.1 a.2.2)
theorem ZOu : Zc Tryz.prog 273 pInrE :=
 pureP 4095 [(312, ZKv), (316, Zqg)] [] ZG6 ZzV ⟨Zwm, ZnR, trivial⟩ Tryz.func273 Tryz.call273 trivial (t := fun a => ZKM a.1 a.2.1 a.2.2) (fun a => by kernel_rfl)
abbrev ZHw : List Sh := [Sh.one (R.int i64), Sh.one (R.int u8), Sh.agg rcF7]
abbrev Zz7 : Rs := Rs.tup [Sh.one (R.int u8), Sh.agg rcF7]
def ZKU (chip : Int) (v : Int) (f : TF) : RT (Option (QT2)) :=
 .br (Zg1 chip v (Zgk v 1 false).1 (Zgk v 1 false).2.2.1 (Zgk v 1 false).2.2.2 true f) (.leaf (some (((Zgk v 1 false).1, Zla chip v (Zgk v 1 false).1 (Zgk v 1 false).2.2.1 (Zgk v 1 false).2.2.2 true f)))) (.leaf none)
def pDcr (chip : Int) (v : Int) (f : TF) : QT2 := getO Zz7.dflt (ZKU chip v f).val
def ZOG (chip : Int) (v : Int) (f : TF) : Bool := okB (ZKU chip v f).val
def pDcrE : Entry := Zk ZHw Zz7 (fun a => some (ZOG a.1 a.2.1 a.2.2)) (fun a => pDcr a.1 a.2.1 a.2.2)
theorem ZOF : Zc Tryz.prog 274 pDcrE :=
 pureP 4095 [(313, Zz5), (316, Zqg)] [] ZHw Zz7 ⟨Zrf, ZnR, trivial⟩ Tryz.func274 Tryz.call274 trivial (t := fun a => ZKU a.1 a.2.1 a.2.2) (fun a => by kernel_rfl)
abbrev ZG3 : List Sh := [Sh.one (R.int i64), Sh.one (R.int u16), Sh.agg rcF7]
abbrev ZG4 : Rs := Rs.tup [Sh.one (R.int u16), Sh.agg rcF7]
def ZOt (chip : Int) (v : Int) (f : TF) : RT (QT2) :=
 .leaf ((u16.wrap (v + 1), f.1, f.2.1, bif chip == 2 then v == 65535 else f.2.2.1, f.2.2.2))
def pInx (chip : Int) (v : Int) (f : TF) : QT2 := (ZOt chip v f).val
def pInxE : Entry := Zk ZG3 ZG4 (fun _ => none) (fun a => pInx a.1 a.2.1 a.2.2)
theorem ZOs : Zc Tryz.prog 275 pInxE :=
 pureQ 255 [] [] ZG3 ZG4 trivial Tryz.func275 Tryz.call275 trivial (t := fun a => ZOt a.1 a.2.1 a.2.2) (fun a => by kernel_rfl)
abbrev ZHt : List Sh := [Sh.one (R.int i64), Sh.one (R.int u16), Sh.agg rcF7]
abbrev ZHu : Rs := Rs.tup [Sh.one (R.int u16), Sh.agg rcF7]
def ZOE (chip : Int) (v : Int) (f : TF) : RT (QT2) :=
 .leaf ((u16.wrap (v - 1), f.1, f.2.1, bif chip == 2 then v == 0 else f.2.2.1, f.2.2.2))
def pDcx (chip : Int) (v : Int) (f : TF) : QT2 := (ZOE chip v f).val
def pDcxE : Entry := Zk ZHt ZHu (fun _ => none) (fun a => pDcx a.1 a.2.1 a.2.2)
theorem ZOD : Zc Tryz.prog 276 pDcxE :=
 pureQ 255 [] [] ZHt ZHu trivial Tryz.func276 Tryz.call276 trivial (t := fun a => ZOE a.1 a.2.1 a.2.2) (fun a => by kernel_rfl)
abbrev ZHx : List Sh := [Sh.one (R.int i64), Sh.one (R.int u16), Sh.one (R.int u16), Sh.agg rcF7]
abbrev ZHy : Rs := Rs.tup [Sh.one (R.int u16), Sh.agg rcF7]
def ZOI (chip : Int) (a : Int) (b : Int) (f : TF) : RT (QT2) :=
 .leaf ((u16.wrap (a + b), f.1, f.2.1, f.2.2.1, f.2.2.2.1, f.2.2.2.2.1, bif chip == 2 then andI u16 (andI u16 (xorI u16 a (u16.wrap (a + b))) (xorI u16 b (u16.wrap (a + b)))) 32768 != 0 else f.2.2.2.2.2.1, decide (u16.wrap (a + b) < a)))
def pDad (chip : Int) (a : Int) (b : Int) (f : TF) : QT2 := (ZOI chip a b f).val
def pDadE : Entry := Zk ZHx ZHy (fun _ => none) (fun a => pDad a.1 a.2.1 a.2.2.1 a.2.2.2)
theorem ZOH : Zc Tryz.prog 277 pDadE :=
 pureQ 2047 [] [] ZHx ZHy trivial Tryz.func277 Tryz.call277 trivial (t := fun a => ZOI a.1 a.2.1 a.2.2.1 a.2.2.2) (fun a => by kernel_rfl)
abbrev Zxt : List Sh := [Sh.one (R.int u16), Sh.one (R.int u16)]
abbrev Zre : Rs := Rs.tup [Sh.one (R.int u16), Sh.agg rcF7]
def Zz4 (a : Int) (b : Int) : RT (Option (QT2)) :=
 let x1 := Zgk (u8.wrap (shrI u16 a 8)) (u8.wrap (shrI u16 b 8)) (Zgk (u8.wrap a) (u8.wrap b) false).2.1
 let x2 := x1.1
 let x3 := pOf x2
 let x4 := x1.2
 let x5 := x4.2
 .br (pOfC x2) (.leaf (some ((ZG2 x2 (Zgk (u8.wrap a) (u8.wrap b) false).1, x3.1, x2 == 0 && (Zgk (u8.wrap a) (u8.wrap b) false).1 == 0, pMaj (decide (a ≥ 32768)) (decide (b < 32768)) (decide (x2 ≥ 128)), x5.1, x3.2.2.2.2.1, x5.2, x4.1)))) (.leaf none)
def ZOz (a : Int) (b : Int) : QT2 := getO Zre.dflt (Zz4 a b).val
def ZHn (a : Int) (b : Int) : Bool := okB (Zz4 a b).val
def ZQw : Entry := Zk Zxt Zre (fun a => some (ZHn a.1 a.2)) (fun a => ZOz a.1 a.2)
theorem ZKQ : Zc Tryz.prog 283 ZQw :=
 pureP 32767 [(236, ZzU), (313, Zz5), (314, pOfE), (315, ZCy)] [] Zxt Zre ⟨Zjs, Zrf, Ztp, ZlP, trivial⟩ Tryz.func283 Tryz.call283 trivial (t := fun a => Zz4 a.1 a.2) (fun a => by kernel_rfl)
abbrev ZHA : List Sh := [Sh.one (R.int i64), Sh.one (R.int u8), Sh.agg rcF7]
abbrev ZAa : Rs := Rs.tup [Sh.one (R.int u8), Sh.agg rcF7]
def ZKW (chip : Int) (a : Int) (f : TF) : RT (Option (QT2)) :=
 let x1 : Int := bif f.2.2.2.1 || decide (andI u8 a 15 > 9) then 6 else 0
 let x2 := pSum a (bif f.2.2.2.2.2.2 || decide (a > 153) then u8.wrap (x1 + 96) else x1) false
 let x3 := x2.1
 let x4 := pOf x3
 let x5 := x4.2
 let x6 := x5.2
 let x7 := x2.2.2
 let x8 := x6.2.2
 .br (pOfC x3) (.leaf (some ((x3, x4.1, x5.1, bif chip == 2 then pMaj (decide (a ≥ 128)) false (decide (x3 ≥ 128)) else x6.1, x7.1, x8.1, bif chip == 2 then x7.2 else x8.2.1, f.2.2.2.2.2.2 || decide (a > 153))))) (.leaf none)
def pDaa (chip : Int) (a : Int) (f : TF) : QT2 := getO ZAa.dflt (ZKW chip a f).val
def ZOK (chip : Int) (a : Int) (f : TF) : Bool := okB (ZKW chip a f).val
def pDaaE : Entry := Zk ZHA ZAa (fun a => some (ZOK a.1 a.2.1 a.2.2)) (fun a => pDaa a.1 a.2.1 a.2.2)
theorem ZOJ : Zc Tryz.prog 278 pDaaE :=
 pureP 32767 [(312, ZKv), (314, pOfE), (315, ZCy)] [] ZHA ZAa ⟨Zwm, Ztp, ZlP, trivial⟩ Tryz.func278 Tryz.call278 trivial (t := fun a => ZKW a.1 a.2.1 a.2.2) (fun a => by kernel_rfl)
abbrev ZML : List Sh := [Sh.one R.bool]
abbrev ZMM : Rs := Rs.one (Sh.one (R.int u8))
def ZQu (c : Bool) : RT (Int) :=
 .br (c) (.leaf (1)) (.leaf (0))
def pLow (c : Bool) : Int := (ZQu c).val
def ZCz : Entry := Zk ZML ZMM (fun _ => none) (fun a => pLow a)
theorem Zxd : Zc Tryz.prog 320 ZCz :=
 pureQ 7 [] [] ZML ZMM trivial Tryz.func320 Tryz.call320 trivial (t := fun a => ZQu a) (fun a => by kernel_rfl)
def Zfo : Entry := .tree (ZN (envX Tryz.prog [] [] 7 8) Tryz.f317)
theorem Zh9 : Zc Tryz.prog 317 Zfo := Zaa (P := Tryz.prog) (n := 7) (k := 8) (l := []) (ol := []) trivial Tryz.func317 rfl (by kernel_rfl) Tryz.call317 trivial
def Zfn : Entry := .tree (ZN (envX Tryz.prog [] [] 7 8) Tryz.f318)
theorem Zh8 : Zc Tryz.prog 318 Zfn := Zaa (P := Tryz.prog) (n := 7) (k := 8) (l := []) (ol := []) trivial Tryz.func318 rfl (by kernel_rfl) Tryz.call318 trivial
def Zfm : Entry := .tree (ZN (envX Tryz.prog [(320, ZCz)] [] 15 8) Tryz.f319)
theorem Zh7 : Zc Tryz.prog 319 Zfm := Zaa (P := Tryz.prog) (n := 15) (k := 8) (l := [(320, ZCz)]) (ol := []) ⟨Zxd, trivial⟩ Tryz.func319 rfl (by kernel_rfl) Tryz.call319 trivial
def Zfl : Entry := .tree (ZN (envX Tryz.prog [(320, ZCz)] [] 15 8) Tryz.f321)
theorem Zh6 : Zc Tryz.prog 321 Zfl := Zaa (P := Tryz.prog) (n := 15) (k := 8) (l := [(320, ZCz)]) (ol := []) ⟨Zxd, trivial⟩ Tryz.func321 rfl (by kernel_rfl) Tryz.call321 trivial
abbrev ZGA : List Sh := [Sh.one (R.int i64), Sh.one (R.int u8), Sh.one R.bool]
abbrev ZzK : Rs := Rs.tup [Sh.one (R.int u8), Sh.one R.bool]
def ZKz (op : Int) (a : Int) (c : Bool) : RT (Option (Int × Bool)) :=
 .br (andI i64 op 3 == 0 || (andI i64 op 3 == ↑(0 + 1) || (andI i64 op 3 == ↑(0 + 1 + 1) || andI i64 op 3 == ↑(0 + 1 + 1 + 1)))) (.leaf (some ((bif andI i64 op 3 == 0 then orI u8 (shlI u8 a 1) (shrI u8 a 7) else bif andI i64 op 3 == ↑(0 + 1) then orI u8 (shrI u8 a 1) (shlI u8 a 7) else bif andI i64 op 3 == ↑(0 + 1 + 1) then orI u8 (shlI u8 a 1) (pLow c) else orI u8 (shrI u8 a 1) (shlI u8 (pLow c) 7), bif andI i64 op 3 == 0 then decide (a ≥ 128) else bif andI i64 op 3 == ↑(0 + 1) then andI u8 a 1 == 1 else bif andI i64 op 3 == ↑(0 + 1 + 1) then decide (a ≥ 128) else andI u8 a 1 == 1)))) (.leaf none)
def pRot (op : Int) (a : Int) (c : Bool) : Int × Bool := getO ZzK.dflt (ZKz op a c).val
def ZOh (op : Int) (a : Int) (c : Bool) : Bool := okB (ZKz op a c).val
def pRotE : Entry := Zk ZGA ZzK (fun a => some (ZOh a.1 a.2.1 a.2.2)) (fun a => pRot a.1 a.2.1 a.2.2)
theorem ZOg : Zc Tryz.prog 279 pRotE :=
 pureP 511 [(317, Zfo), (318, Zfn), (319, Zfm), (321, Zfl)] [] ZGA ZzK ⟨Zh9, Zh8, Zh7, Zh6, trivial⟩ Tryz.func279 Tryz.call279 trivial (t := fun a => ZKz a.1 a.2.1 a.2.2) (fun a => by kernel_rfl)
abbrev Zxw : List Sh := [Sh.one (R.int u16)]
abbrev Zxx : Rs := Rs.tup [Sh.one (R.int u16), Sh.one R.bool]
def ZMQ (v : Int) : RT (Int × Bool) :=
 .leaf ((orI u16 (shrI u16 v 1) (andI u16 v 32768), andI u16 v 1 == 1))
def ZQA (v : Int) : Int × Bool := (ZMQ v).val
def ZQz : Entry := Zk Zxw Zxx (fun _ => none) (fun a => ZQA a)
theorem ZKZ : Zc Tryz.prog 284 ZQz :=
 pureQ 15 [] [] Zxw Zxx trivial Tryz.func284 Tryz.call284 trivial (t := fun a => ZMQ a) (fun a => by kernel_rfl)
abbrev Zws : List Sh := [Sh.one (R.int u16), Sh.one R.bool]
abbrev Zwt : Rs := Rs.tup [Sh.one (R.int u16), Sh.one R.bool, Sh.one R.bool]
def ZGG (v : Int) (c : Bool) : RT (Int × Bool × Bool) :=
 .leaf ((orI u16 (shlI u16 v 1) (u16.wrap (pLow c)), decide (v ≥ 32768), andI u16 (xorI u16 (orI u16 (shlI u16 v 1) (u16.wrap (pLow c))) v) 32768 != 0))
def ZOl (v : Int) (c : Bool) : Int × Bool × Bool := (ZGG v c).val
def ZQp : Entry := Zk Zws Zwt (fun _ => none) (fun a => ZOl a.1 a.2)
theorem ZKD : Zc Tryz.prog 285 ZQp :=
 pureQ 127 [(320, ZCz)] [] Zws Zwt ⟨Zxd, trivial⟩ Tryz.func285 Tryz.call285 trivial (t := fun a => ZGG a.1 a.2) (fun a => by kernel_rfl)
abbrev ZGz : List Sh := [Sh.one R.bool, Sh.one (R.int i64)]
abbrev Zwq : Rs := Rs.one (Sh.one (R.int u8))
def ZzJ (b : Bool) (n : Int) : RT (Option (Int)) :=
 .br (!b || decide (0 ≤ n)) (.br (b) (.leaf (some (shlI u8 1 n))) (.leaf (some (0)))) (.leaf none)
def Ztl (b : Bool) (n : Int) : Int := getO Zwq.dflt (ZzJ b n).val
def Zci (b : Bool) (n : Int) : Bool := okB (ZzJ b n).val
def ZME : Entry := Zk ZGz Zwq (fun a => some (Zci a.1 a.2)) (fun a => Ztl a.1 a.2)
theorem ZKy : Zc Tryz.prog 282 ZME :=
 pureP 31 [] [] ZGz Zwq trivial Tryz.func282 Tryz.call282 trivial (t := fun a => ZzJ a.1 a.2) (fun a => by kernel_rfl)
abbrev ZGC : List Sh := [Sh.agg Zaf, Sh.agg (R.pair R.bool (R.pair R.bool rcF7))]
abbrev ZzL : Rs := Rs.tup [Sh.one (R.int u8), Sh.agg Zaf]
def ZKB (c : TC) (l : QT0) : RT (Option (Int × TC)) :=
 let x1 := bif c.2.2.2.2.2.2.2.2.2.2.1 then c.2.2.2.2.2.2.2.2.2.2.2.1 else c.2.2.1
 .br (!Zci l.2.2.2.1 7 || (!Zci c.2.2.2.2.2.2.2.1 6 || (!Zci l.2.2.2.2.2.2.1 5 || (!Zci l.2.2.2.2.2.2.2.1 4 || Zci x1 3)))) (.br (!Zci l.2.2.2.1 7 || (!Zci c.2.2.2.2.2.2.2.1 6 || (!Zci l.2.2.2.2.2.2.1 5 || Zci l.2.2.2.2.2.2.2.1 4))) (.br (!Zci l.2.2.2.1 7 || (!Zci c.2.2.2.2.2.2.2.1 6 || Zci l.2.2.2.2.2.2.1 5)) (.br (!Zci l.2.2.2.1 7 || Zci c.2.2.2.2.2.2.2.1 6) (.br (Zci l.2.2.2.1 7) (.leaf (some ((orI u8 (orI u8 (orI u8 (orI u8 (orI u8 (Ztl l.2.2.2.1 7) (Ztl c.2.2.2.2.2.2.2.1 6)) (Ztl l.2.2.2.2.2.2.1 5)) (Ztl l.2.2.2.2.2.2.2.1 4)) (Ztl x1 3)) (andI u8 c.2.2.2.2.2.1 7), c.1, c.2.1, c.2.2.1, c.2.2.2.1, c.2.2.2.2.1, c.2.2.2.2.2.1, c.2.2.2.2.2.2.1, c.2.2.2.2.2.2.2.1, c.2.2.2.2.2.2.2.2.1, c.2.2.2.2.2.2.2.2.2.1, false, false, c.2.2.2.2.2.2.2.2.2.2.2.2)))) (.leaf none)) (.leaf none)) (.leaf none)) (.leaf none)) (.leaf none)
def pRim (c : TC) (l : QT0) : Int × TC := getO ZzL.dflt (ZKB c l).val
def ZOj (c : TC) (l : QT0) : Bool := okB (ZKB c l).val
def pRimE : Entry := Zk ZGC ZzL (fun a => some (ZOj a.1 a.2)) (fun a => pRim a.1 a.2)
theorem ZOi : Zc Tryz.prog 227 pRimE :=
 pureP 255 [(282, ZME)] [] ZGC ZzL ⟨ZKy, trivial⟩ Tryz.func227 Tryz.call227 trivial (t := fun a => ZKB a.1 a.2) (fun a => by kernel_rfl)
abbrev ZGs : List Sh := [Sh.agg Zaf, Sh.one (R.int u8)]
abbrev ZGt : Rs := Rs.one (Sh.agg Zaf)
def ZOe (c : TC) (a : Int) : RT TC :=
 .leaf ((c.1, c.2.1, c.2.2.1, c.2.2.2.1, c.2.2.2.2.1, bif andI u8 a 8 != 0 then andI u8 a 7 else c.2.2.2.2.2.1, c.2.2.2.2.2.2.1, !andI u8 a 16 != 0 && c.2.2.2.2.2.2.2.1, c.2.2.2.2.2.2.2.2.1, c.2.2.2.2.2.2.2.2.2.1, c.2.2.2.2.2.2.2.2.2.2.1, c.2.2.2.2.2.2.2.2.2.2.2.1, bif andI u8 a 64 != 0 then andI u8 a 128 != 0 else c.2.2.2.2.2.2.2.2.2.2.2.2))
def pSim (c : TC) (a : Int) : TC := (ZOe c a).val
def pSimE : Entry := Zk ZGs ZGt (fun _ => none) (fun a => pSim a.1 a.2)
theorem ZOd : Zc Tryz.prog 228 pSimE :=
 pureQ 31 [] [] ZGs ZGt trivial Tryz.func228 Tryz.call228 trivial (t := fun a => ZOe a.1 a.2) (fun a => by kernel_rfl)
abbrev Zqy : List Sh := [Sh.one (R.int i64), Sh.agg rcF7]
abbrev Zqz : Rs := Rs.one (Sh.one R.bool)
def Zxg (c : Int) (f : TF) : RT (Bool) :=
 .br (bif c == 0 then c == 0 else c == 1) (.leaf (f.2.1 == (c == 1))) (.br (bif c == 2 then c == 2 else c == 3) (.leaf (f.2.2.2.2.2.2 == (c == 3))) (.br (bif c == 4 then c == 4 else c == 5) (.leaf (f.2.2.2.2.1 == (c == 5))) (.br (bif c == 6 then c == 6 else c == 7) (.leaf (f.1 == (c == 7))) (.br (bif c == 8 then c == 8 else c == 9) (.leaf (f.2.2.1 == (c == 9))) (.br (c == 10) (.leaf f.2.2.2.2.2.1) (.leaf (c == 11)))))))
def ZG8 (c : Int) (f : TF) : Bool := (Zxg c f).val
def ZOw : Entry := Zk Zqy Zqz (fun _ => none) (fun a => ZG8 a.1 a.2)
theorem ZG7 : Zc Tryz.prog 322 ZOw :=
 pureQ 70644700037215 [] [] Zqy Zqz trivial Tryz.func322 Tryz.call322 trivial (t := fun a => Zxg a.1 a.2) (fun a => by kernel_rfl)
abbrev Zk2 : List Sh := [Sh.one (R.int i64)]
abbrev Zk3 : Rs := Rs.one (Sh.one (R.int u16))
def Zqa (s : Int) : RT (Int) :=
 .br (s == 1) (.leaf (36)) (.br (s == 2) (.leaf (60)) (.br (s == 3) (.leaf (52)) (.br (s == 4) (.leaf (44)) (.leaf (0)))))
def Zwl (s : Int) : Int := (Zqa s).val
def ZKu : Entry := Zk Zk2 Zk3 (fun _ => none) (fun a => Zwl a)
theorem ZCk : Zc Tryz.prog 177 ZKu :=
 pureQ 1367 [] [] Zk2 Zk3 trivial Tryz.func177 Tryz.call177 trivial (t := fun a => Zqa a) (fun a => by kernel_rfl)
abbrev ZzS : List Sh := [Sh.one (R.int u8)]
abbrev ZzT : Rs := Rs.tup [Sh.agg (R.pair (R.int i64) (R.pair (R.int i64) (R.pair (R.int i64) (R.pair (R.int i64) (R.pair (R.int i64) (R.pair (R.int i64) (R.pair (R.int i64) (R.int i64)))))))), Sh.one R.bool]
def ZGZ (op : Int) : RT (TI × Bool) :=
 .br (op == 8) (.leaf (((40, 1, 0, 0, 0, 0, 0, 0), true))) (.br (op == 16) (.leaf (((41, 1, 0, 0, 0, 0, 0, 0), true))) (.br (op == 24) (.leaf (((42, 1, 0, 0, 0, 0, 0, 0), true))) (.br (op == 32) (.leaf (((38, 1, 0, 0, 0, 0, 0, 0), true))) (.br (op == 40) (.leaf (((43, 2, 0, 0, 0, 0, 0, 0), true))) (.br (op == 48) (.leaf (((39, 1, 0, 0, 0, 0, 0, 0), true))) (.br (op == 56) (.leaf (((44, 2, 0, 0, 0, 0, 0, 0), true))) (.br (op == 203) (.leaf (((45, 1, 0, 0, 0, 0, 10, 0), true))) (.br (op == 217) (.leaf (((46, 1, 0, 0, 0, 0, 0, 0), true))) (.br (op == 221) (.leaf (((24, 3, 0, 0, 0, 0, 8, 0), true))) (.br (op == 237) (.leaf (((47, 1, 0, 0, 0, 0, 0, 0), true))) (.br (op == 253) (.leaf (((24, 3, 0, 0, 0, 0, 9, 0), true))) (.leaf (((0, 0, 0, 0, 0, 0, 0, 0), false))))))))))))))
def ZG1 (op : Int) : TI × Bool := (ZGZ op).val
def ZG0 : Entry := Zk ZzS ZzT (fun _ => none) (fun a => ZG1 a)
theorem ZGY : Zc Tryz.prog 239 ZG0 :=
 pureQ 314146179375 [] [] ZzS ZzT trivial Tryz.func239 Tryz.call239 trivial (t := fun a => ZGZ a) (fun a => by kernel_rfl)
abbrev ZnT : List Sh := [Sh.one (R.int u8)]
abbrev ZnU : Rs := Rs.tup [Sh.agg (R.pair (R.int i64) (R.pair (R.int i64) (R.pair (R.int i64) (R.pair (R.int i64) (R.pair (R.int i64) (R.pair (R.int i64) (R.pair (R.int i64) (R.int i64)))))))), Sh.one R.bool]
def Ztr (op : Int) : RT (TI × Bool) :=
 .br (bif op == 0 then op == 0 else bif op == 8 then op == 8 else bif op == 16 then op == 16 else bif op == 24 then op == 24 else bif op == 32 then op == 32 else bif op == 40 then op == 40 else bif op == 48 then op == 48 else op == 56) (.leaf (((1, 1, 0, 0, 0, 0, 0, 0), true))) (.br (bif op == 195 then op == 195 else op == 203) (.leaf (((24, 3, 0, 0, 0, 0, 11, 0), true))) (.br (bif op == 201 then op == 201 else op == 217) (.leaf (((26, 1, 0, 0, 0, 0, 11, 0), true))) (.br (bif op == 205 then op == 205 else bif op == 221 then op == 221 else bif op == 237 then op == 237 else op == 253) (.leaf (((25, 3, 0, 0, 0, 0, 11, 0), true))) (.leaf (((0, 0, 0, 0, 0, 0, 0, 0), false))))))
def Zg3 (op : Int) : TI × Bool := (Ztr op).val
def Zts : Entry := Zk ZnT ZnU (fun _ => none) (fun a => Zg3 a)
theorem Zxs : Zc Tryz.prog 240 Zts :=
 pureQ 8945711 [] [] ZnT ZnU trivial Tryz.func240 Tryz.call240 trivial (t := fun a => Ztr a) (fun a => by kernel_rfl)
abbrev ZGP : List Sh := [Sh.one (R.int u8)]
abbrev Zwy : Rs := Rs.one (Sh.agg (R.pair (R.int i64) (R.pair (R.int i64) (R.pair (R.int i64) (R.pair (R.int i64) (R.pair (R.int i64) (R.pair (R.int i64) (R.pair (R.int i64) (R.int i64)))))))))
def ZGQ (op : Int) : RT (Option TI) :=
 let x1 : QT26 := (0, 0, i64.wrap (andI u8 (shrI u8 op 4) 3), 0, 0, 0)
 let x2 : QT21 := (1, x1)
 let x3 := decide (i64.wrap (andI u8 (shrI u8 op 3) 7) < 4) && andI u8 op 8 != 0
 let x4 := decide (0 ≤ i64.wrap (i64.wrap (andI u8 (shrI u8 op 3) 7) - 4) ∧ i64.wrap (i64.wrap (andI u8 (shrI u8 op 3) 7) - 4) < 4)
 let x5 := i64.wrap (i64.wrap (andI u8 (shrI u8 op 3) 7) - 4) == 0
 let x6 := i64.wrap (i64.wrap (andI u8 (shrI u8 op 3) 7) - 4) == ↑(0 + 1)
 let x7 := i64.wrap (i64.wrap (andI u8 (shrI u8 op 3) 7) - 4) == ↑(0 + 1 + 1)
 let x8 : QT26 := (i64.wrap (andI u8 (shrI u8 op 3) 7), 0, 0, 0, 0, 0)
 let x9 : QT21 := (1, x8)
 .br (andI u8 op 7 == 1) (.br (andI u8 op 8 != 0) (.leaf (some ((18, x2)))) (.leaf (some ((4, 3, x1))))) (.br (!andI u8 op 7 == 2 || (x3 || (decide (i64.wrap (andI u8 (shrI u8 op 3) 7) < 4) || x4))) (.br (andI u8 op 7 == 2) (.br (x3) (.leaf (some ((9, x2)))) (.br (decide (i64.wrap (andI u8 (shrI u8 op 3) 7) < 4)) (.leaf (some ((10, x2)))) (.leaf (some ((bif x5 then 8 else bif x6 then 7 else bif x7 then 6 else 5, 3, 0, 0, 0, 0, 0, 0)))))) (.br (andI u8 op 7 == 3) (.br (andI u8 op 8 != 0) (.leaf (some ((17, x2)))) (.leaf (some ((16, x2))))) (.br (andI u8 op 7 == 4) (.leaf (some ((14, x9)))) (.br (andI u8 op 7 == 5) (.leaf (some ((15, x9)))) (.br (andI u8 op 7 == 6) (.leaf (some ((3, 2, x8)))) (.br (decide (i64.wrap (andI u8 (shrI u8 op 3) 7) < 4)) (.leaf (some ((23, 1, 0, 0, 0, i64.wrap (andI u8 (shrI u8 op 3) 7), 0, 0)))) (.br (x4) (.leaf (some ((bif x5 then 19 else bif x6 then 20 else bif x7 then 21 else 22, 1, 0, 0, 0, 0, 0, 0)))) (.leaf none)))))))) (.leaf none))
def ZOq (op : Int) : QT5 := getO Zwy.dflt (ZGQ op).val
def ZGR (op : Int) : Bool := okB (ZGQ op).val
def ZMI : Entry := Zk ZGP Zwy (fun a => some (ZGR a)) (fun a => ZOq a)
theorem ZKJ : Zc Tryz.prog 241 ZMI :=
 pureP 614758941389750335 [] [] ZGP Zwy trivial Tryz.func241 Tryz.call241 trivial (t := fun a => ZGQ a) (fun a => by kernel_rfl)
abbrev ZzP : List Sh := [Sh.one (R.int u8)]
abbrev Zql : Rs := Rs.one (Sh.agg (R.pair (R.int i64) (R.pair (R.int i64) (R.pair (R.int i64) (R.pair (R.int i64) (R.pair (R.int i64) (R.pair (R.int i64) (R.pair (R.int i64) (R.int i64)))))))))
def Zwz (op : Int) : RT (Option TI) :=
 let x1 : QT26 := (0, 0, 0, 0, i64.wrap (andI u8 (shrI u8 op 3) 7), 0)
 let x2 : QT21 := (1, 0, 0, i64.wrap (andI u8 (shrI u8 op 4) 3), 0, 0, 0)
 let x3 := andI u8 op 7 == 2 || (!andI u8 op 7 == 3 || (!decide (i64.wrap (andI u8 (shrI u8 op 3) 7) < 4) || decide (0 ≤ i64.wrap (i64.wrap (andI u8 (shrI u8 op 3) 7) - 2) ∧ i64.wrap (i64.wrap (andI u8 (shrI u8 op 3) 7) - 2) < 2)))
 let x4 : QT21 := (3, x1)
 .br (andI u8 op 7 == 0) (.leaf (some ((26, 1, x1)))) (.br (andI u8 op 7 == 1) (.br (!andI u8 op 8 != 0) (.leaf (some ((31, x2)))) (.br (i64.wrap (andI u8 (shrI u8 op 3) 7) == 5) (.leaf (some ((28, 1, 0, 0, 0, 0, 0, 0)))) (.leaf (some ((29, 1, 0, 0, 0, 0, 0, 0)))))) (.br (!x3 || (andI u8 op 7 == 2 || (!andI u8 op 7 == 3 || (decide (i64.wrap (andI u8 (shrI u8 op 3) 7) < 4) || decide (0 ≤ i64.wrap (i64.wrap (andI u8 (shrI u8 op 3) 7) - 4) ∧ i64.wrap (i64.wrap (andI u8 (shrI u8 op 3) 7) - 4) < 4))))) (.br (x3) (.br (andI u8 op 7 == 2) (.leaf (some ((24, x4)))) (.br (andI u8 op 7 == 3) (.br (decide (i64.wrap (andI u8 (shrI u8 op 3) 7) < 4)) (.leaf (some ((bif i64.wrap (i64.wrap (andI u8 (shrI u8 op 3) 7) - 2) == 0 then 34 else 33, 2, 0, 0, 0, 0, 0, 0)))) (.leaf (some ((bif i64.wrap (i64.wrap (andI u8 (shrI u8 op 3) 7) - 4) == 0 then 32 else bif i64.wrap (i64.wrap (andI u8 (shrI u8 op 3) 7) - 4) == ↑(0 + 1) then 11 else bif i64.wrap (i64.wrap (andI u8 (shrI u8 op 3) 7) - 4) == ↑(0 + 1 + 1) then 36 else 35, 1, 0, 0, 0, 0, 0, 0))))) (.br (andI u8 op 7 == 4) (.leaf (some ((25, x4)))) (.br (andI u8 op 7 == 5) (.leaf (some ((30, x2)))) (.br (andI u8 op 7 == 6) (.leaf (some ((13, 2, 0, 0, 0, i64.wrap (andI u8 (shrI u8 op 3) 7), 0, 0)))) (.leaf (some ((27, 1, 0, 0, 0, 0, 0, i64.wrap (andI u8 (shrI u8 op 3) 7)))))))))) (.leaf none)) (.leaf none)))
def ZGU (op : Int) : QT5 := getO Zql.dflt (Zwz op).val
def ZwA (op : Int) : Bool := okB (Zwz op).val
def ZGT : Entry := Zk ZzP Zql (fun a => some (ZwA a)) (fun a => ZGU a)
theorem ZGS : Zc Tryz.prog 242 ZGT :=
 pureP 614741495173873727 [] [] ZzP Zql trivial Tryz.func242 Tryz.call242 trivial (t := fun a => Zwz a) (fun a => by kernel_rfl)
abbrev Zg4 : List Sh := [Sh.one (R.int i64), Sh.one (R.int u8)]
abbrev Zg5 : Rs := Rs.one (Sh.agg (R.pair (R.int i64) (R.pair (R.int i64) (R.pair (R.int i64) (R.pair (R.int i64) (R.pair (R.int i64) (R.pair (R.int i64) (R.pair (R.int i64) (R.int i64)))))))))
def Zek (chip : Int) (op : Int) : RT (Option TI) :=
 let x1 : QT5 := (37, 1, 0, 0, 0, 0, 0, 0)
 let x2 : QT5 := (2, 1, i64.wrap (andI u8 (shrI u8 op 3) 7), i64.wrap (andI u8 op 7), 0, 0, 0, 0)
 let x3 : QT5 := (12, 1, 0, i64.wrap (andI u8 op 7), 0, i64.wrap (andI u8 (shrI u8 op 3) 7), 0, 0)
 .br (chip == 2) (.br (ZG1 op).2 (.leaf (some (ZG1 op).1)) (.br (Zg3 op).2 (.leaf (some (Zg3 op).1)) (.br (!shrI u8 op 6 == 0 || ZGR op) (.br (shrI u8 op 6 == 0) (.leaf (some (ZOq op))) (.br (shrI u8 op 6 == 1) (.br (op == 118) (.leaf (some (x1))) (.leaf (some (x2)))) (.br (shrI u8 op 6 == 2) (.leaf (some (x3))) (.br (ZwA op) (.leaf (some (ZGU op))) (.leaf none))))) (.leaf none)))) (.br (Zg3 op).2 (.leaf (some (Zg3 op).1)) (.br (!shrI u8 op 6 == 0 || ZGR op) (.br (shrI u8 op 6 == 0) (.leaf (some (ZOq op))) (.br (shrI u8 op 6 == 1) (.br (op == 118) (.leaf (some (x1))) (.leaf (some (x2)))) (.br (shrI u8 op 6 == 2) (.leaf (some (x3))) (.br (ZwA op) (.leaf (some (ZGU op))) (.leaf none))))) (.leaf none)))
def ZlT (chip : Int) (op : Int) : QT5 := getO Zg5.dflt (Zek chip op).val
def Zjt (chip : Int) (op : Int) : Bool := okB (Zek chip op).val
def ZKS : Entry := Zk Zg4 Zg5 (fun a => some (Zjt a.1 a.2)) (fun a => ZlT a.1 a.2)
theorem ZDe : Zc Tryz.prog 182 ZKS :=
 pureP 17594467746303 [(239, ZG0), (240, Zts), (241, ZMI), (242, ZGT)] [] Zg4 Zg5 ⟨ZGY, Zxs, ZKJ, ZGS, trivial⟩ Tryz.func182 Tryz.call182 trivial (t := fun a => Zek a.1 a.2) (fun a => by kernel_rfl)
abbrev ZP6 : List Sh := [Sh.one (R.int i64)]
abbrev ZP7 : Rs := Rs.one (Sh.one R.bool)
def rOnT (chip : Int) : RT (Bool) :=
 .leaf (chip == 2)
def rOn (chip : Int) : Bool := (rOnT chip).val
def rOnE : Entry := Zk ZP6 ZP7 (fun _ => none) (fun a => rOn a)
theorem Zf3 : Zc Tryz.prog 146 rOnE :=
 pureQ 7 [] [] ZP6 ZP7 trivial Tryz.func146 Tryz.call146 trivial (t := fun a => rOnT a) (fun a => by kernel_rfl)
abbrev ZsS : List Sh := [Sh.one (R.int u8)]
abbrev ZsT : Rs := Rs.one (Sh.one R.bool)
def Zy9 (b : Int) : RT (Bool) :=
 let x1 := i64.wrap (i64.wrap (i64.wrap (i64.wrap (0 + 1) + 1) + 1) + 1)
 let x2 := i64.wrap (x1 + 1)
 let x3 := i64.wrap (x2 + 1)
 let x4 := bif andI u8 (shrI u8 b (i64.wrap (0 + 1))) 1 == 1 then !!andI u8 (shrI u8 b 0) 1 == 1 else !andI u8 (shrI u8 b 0) 1 == 1
 let x5 := bif andI u8 (shrI u8 b (i64.wrap (i64.wrap (0 + 1) + 1))) 1 == 1 then !x4 else x4
 let x6 := bif andI u8 (shrI u8 b (i64.wrap (i64.wrap (i64.wrap (0 + 1) + 1) + 1))) 1 == 1 then !x5 else x5
 let x7 := bif andI u8 (shrI u8 b x1) 1 == 1 then !x6 else x6
 let x8 := bif andI u8 (shrI u8 b x2) 1 == 1 then !x7 else x7
 let x9 := bif andI u8 (shrI u8 b x3) 1 == 1 then !x8 else x8
 .leaf (bif andI u8 (shrI u8 b (i64.wrap (x3 + 1))) 1 == 1 then !x9 else x9)
def Zj6 (b : Int) : Bool := (Zy9 b).val
def ZoW : Entry := Zk ZsS ZsT (fun _ => none) (fun a => Zj6 a)
theorem ZnA : Zc Tryz.prog 266 ZoW :=
 ZzC (P := Tryz.prog) (n := 31) (k := 10) (l := []) (ol := []) trivial Tryz.func266 rfl (by kernel_rfl) Tryz.call266 trivial (ts := ZsS) (rs := ZsT) (t := fun a => Zy9 a) (fun a => by kernel_rfl)
abbrev ZMd : List Sh := [Sh.one R.bool, Sh.one R.bool, Sh.one R.bool]
abbrev ZMe : Rs := Rs.one (Sh.one R.bool)
def ZQb (a : Bool) (b : Bool) (c : Bool) : RT (Bool) :=
 .leaf (bif a then b || bif a then c || b && c else b && c else bif a then c || b && c else b && c)
def rMaj (a : Bool) (b : Bool) (c : Bool) : Bool := (ZQb a b c).val
def ZBs : Entry := Zk ZMd ZMe (fun _ => none) (fun a => rMaj a.1 a.2.1 a.2.2)
theorem ZkL : Zc Tryz.prog 264 ZBs :=
 pureQ 127 [] [] ZMd ZMe trivial Tryz.func264 Tryz.call264 trivial (t := fun a => ZQb a.1 a.2.1 a.2.2) (fun a => by kernel_rfl)
abbrev ZL8 : List Sh := [Sh.one R.bool]
abbrev ZL9 : Rs := Rs.one (Sh.one (R.int i64))
def ZP5 (b : Bool) : RT (Int) :=
 .br (b) (.leaf (1)) (.leaf (0))
def rOne (b : Bool) : Int := (ZP5 b).val
def ZJ6 : Entry := Zk ZL8 ZL9 (fun _ => none) (fun a => rOne a)
theorem Zu7 : Zc Tryz.prog 267 ZJ6 :=
 pureQ 7 [] [] ZL8 ZL9 trivial Tryz.func267 Tryz.call267 trivial (t := fun a => ZP5 a) (fun a => by kernel_rfl)
abbrev ZsI : List Sh := [Sh.one (R.int u8)]
abbrev ZsJ : Rs := Rs.one (Sh.one (R.int i64))
def Zjb (n : Int) : RT (Int) :=
 .leaf (i64.wrap (IntKind.i8.wrap n))
def Zdm (n : Int) : Int := (Zjb n).val
def ZoN : Entry := Zk ZsI ZsJ (fun _ => none) (fun a => Zdm a)
theorem Znu : Zc Tryz.prog 309 ZoN :=
 pureQ 7 [] [] ZsI ZsJ trivial Tryz.func309 Tryz.call309 trivial (t := fun a => Zjb a) (fun a => by kernel_rfl)
abbrev ZLZ : List Sh := [Sh.one (R.int u8), Sh.one (R.int u8), Sh.one R.bool]
abbrev ZL0 : Rs := Rs.tup [Sh.one (R.int u8), Sh.one R.bool, Sh.one R.bool, Sh.one R.bool]
def ZJS (a : Int) (b : Int) (c : Bool) : RT (QT19) :=
 let x1 := decide (i64.wrap (i64.wrap (Zdm a + Zdm b) + rOne c) < -128)
 let x2 := i64.wrap (i64.wrap (i64.wrap a + i64.wrap b) + rOne c)
 let x3 := u8.wrap x2
 let x4 := decide (x2 > 255)
 let x5 := decide (i64.wrap (i64.wrap (i64.wrap (andI u8 a 15) + i64.wrap (andI u8 b 15)) + rOne c) > 15)
 .leaf ((bif x1 then x3 else x3, bif x1 then x4 else x4, bif x1 then x5 else x5, x1 || decide (i64.wrap (i64.wrap (Zdm a + Zdm b) + rOne c) > 127)))
def rSum (a : Int) (b : Int) (c : Bool) : QT19 := (ZJS a b c).val
def ZJT : Entry := Zk ZLZ ZL0 (fun _ => none) (fun a => rSum a.1 a.2.1 a.2.2)
theorem ZuU : Zc Tryz.prog 260 ZJT :=
 pureQ 8191 [(267, ZJ6), (309, ZoN)] [] ZLZ ZL0 ⟨Zu7, Znu, trivial⟩ Tryz.func260 Tryz.call260 trivial (t := fun a => ZJS a.1 a.2.1 a.2.2) (fun a => by kernel_rfl)
abbrev ZFP : List Sh := [Sh.one (R.int u8), Sh.one (R.int u8), Sh.one R.bool]
abbrev ZFQ : Rs := Rs.tup [Sh.one (R.int u8), Sh.one R.bool, Sh.one R.bool, Sh.one R.bool]
def Zzq (a : Int) (b : Int) (c : Bool) : RT (QT19) :=
 let x1 := decide (i64.wrap (i64.wrap (Zdm a - Zdm b) - rOne c) < -128)
 let x2 := i64.wrap (i64.wrap (i64.wrap a - i64.wrap b) - rOne c)
 let x3 := u8.wrap x2
 let x4 := decide (x2 < 0)
 let x5 := decide (i64.wrap (i64.wrap (i64.wrap (i64.wrap (andI u8 a 15) + i64.wrap (u8.wrap (15 - andI u8 b 15))) + 1) - rOne c) > 15)
 .leaf ((bif x1 then x3 else x3, bif x1 then x4 else x4, bif x1 then x5 else x5, x1 || decide (i64.wrap (i64.wrap (Zdm a - Zdm b) - rOne c) > 127)))
def Zb3 (a : Int) (b : Int) (c : Bool) : QT19 := (Zzq a b c).val
def Zzr : Entry := Zk ZFP ZFQ (fun _ => none) (fun a => Zb3 a.1 a.2.1 a.2.2)
theorem ZpU : Zc Tryz.prog 261 Zzr :=
 pureQ 8191 [(267, ZJ6), (309, ZoN)] [] ZFP ZFQ ⟨Zu7, Znu, trivial⟩ Tryz.func261 Tryz.call261 trivial (t := fun a => Zzq a.1 a.2.1 a.2.2) (fun a => by kernel_rfl)
abbrev ZFr : List Sh := [Sh.one (R.int u8), Sh.one (R.int u8)]
abbrev ZFs : Rs := Rs.one (Sh.one (R.int u16))
def ZMf (h : Int) (l : Int) : RT (Int) :=
 .leaf (orI u16 (shlI u16 (u16.wrap h) 8) (u16.wrap l))
def Zcg (h : Int) (l : Int) : Int := (ZMf h l).val
def ZkN : Entry := Zk ZFr ZFs (fun _ => none) (fun a => Zcg a.1 a.2)
theorem ZgO : Zc Tryz.prog 172 ZkN :=
 pureQ 31 [] [] ZFr ZFs trivial Tryz.func172 Tryz.call172 trivial (t := fun a => ZMf a.1 a.2) (fun a => by kernel_rfl)
abbrev ZMt : List Sh := [Sh.one R.bool, Sh.one (R.int i64)]
abbrev ZFT : Rs := Rs.one (Sh.one (R.int u8))
def ZKj (b : Bool) (n : Int) : RT (Option (Int)) :=
 .br (!b || decide (0 ≤ n)) (.br (b) (.leaf (some (shlI u8 1 n))) (.leaf (some (0)))) (.leaf none)
def rBit (b : Bool) (n : Int) : Int := getO ZFT.dflt (ZKj b n).val
def Zc4 (b : Bool) (n : Int) : Bool := okB (ZKj b n).val
def ZKk : Entry := Zk ZMt ZFT (fun a => some (Zc4 a.1 a.2)) (fun a => rBit a.1 a.2)
theorem Zv7 : Zc Tryz.prog 265 ZKk :=
 pureP 31 [] [] ZMt ZFT trivial Tryz.func265 Tryz.call265 trivial (t := fun a => ZKj a.1 a.2) (fun a => by kernel_rfl)
abbrev ZE9 : List Sh := [Sh.one (R.int i64), Sh.agg rcF7]
abbrev Zu6 : Rs := Rs.one (Sh.one (R.int u8))
def ZsU (chip : Int) (f : TF) : RT (Option (Int)) :=
 let x1 := orI u8 (orI u8 (orI u8 (orI u8 (rBit f.1 7) (rBit f.2.1 6)) (rBit f.2.2.2.1 4)) (rBit f.2.2.2.2.1 2)) (rBit f.2.2.2.2.2.2 0)
 .br (!Zc4 f.1 7 || (!Zc4 f.2.1 6 || (!Zc4 f.2.2.2.1 4 || (!Zc4 f.2.2.2.2.1 2 || Zc4 f.2.2.2.2.2.2 0)))) (.br (!Zc4 f.1 7 || (!Zc4 f.2.1 6 || (!Zc4 f.2.2.2.1 4 || Zc4 f.2.2.2.2.1 2))) (.br (!Zc4 f.1 7 || (!Zc4 f.2.1 6 || Zc4 f.2.2.2.1 4)) (.br (!Zc4 f.1 7 || Zc4 f.2.1 6) (.br (Zc4 f.1 7) (.br (!rOn chip || (!Zc4 f.2.2.1 5 || Zc4 f.2.2.2.2.2.1 1)) (.br (!rOn chip || Zc4 f.2.2.1 5) (.br (rOn chip) (.leaf (some (orI u8 (orI u8 x1 (rBit f.2.2.1 5)) (rBit f.2.2.2.2.2.1 1)))) (.leaf (some (orI u8 x1 2)))) (.leaf none)) (.leaf none)) (.leaf none)) (.leaf none)) (.leaf none)) (.leaf none)) (.leaf none)
def ZJ4 (chip : Int) (f : TF) : Int := getO Zu6.dflt (ZsU chip f).val
def Zza (chip : Int) (f : TF) : Bool := okB (ZsU chip f).val
def ZL7 : Entry := Zk ZE9 Zu6 (fun a => some (Zza a.1 a.2)) (fun a => ZJ4 a.1 a.2)
theorem ZJ3 : Zc Tryz.prog 221 ZL7 :=
 pureP 63 [(146, rOnE), (265, ZKk)] [] ZE9 Zu6 ⟨Zf3, Zv7, trivial⟩ Tryz.func221 Tryz.call221 trivial (t := fun a => ZsU a.1 a.2) (fun a => by kernel_rfl)
abbrev ZsD : List Sh := [Sh.one (R.int i64), Sh.one (R.int u8)]
abbrev ZsE : Rs := Rs.one (Sh.agg rcF7)
def ZoK (chip : Int) (b : Int) : RT TF :=
 .leaf ((andI u8 b 128 != 0, andI u8 b 64 != 0, rOn chip && andI u8 b 32 != 0, andI u8 b 16 != 0, andI u8 b 4 != 0, rOn chip && andI u8 b 2 != 0, andI u8 b 1 != 0))
def ZoL (chip : Int) (b : Int) : TF := (ZoK chip b).val
def ZyV : Entry := Zk ZsD ZsE (fun _ => none) (fun a => ZoL a.1 a.2)
theorem ZBa : Zc Tryz.prog 259 ZyV :=
 pureQ 63 [(146, rOnE)] [] ZsD ZsE ⟨Zf3, trivial⟩ Tryz.func259 Tryz.call259 trivial (t := fun a => ZoK a.1 a.2) (fun a => by kernel_rfl)
abbrev ZP9 : List Sh := [Sh.one (R.int u8)]
abbrev ZQa : Rs := Rs.one (Sh.agg rcF7)
def rOfT (r : Int) : RT TF :=
 .leaf ((decide (r ≥ 128), r == 0, false, false, Zj6 r, false, false))
def rOf (r : Int) : TF := (rOfT r).val
def rOfE : Entry := Zk ZP9 ZQa (fun _ => none) (fun a => rOf a)
theorem Zzd : Zc Tryz.prog 262 rOfE :=
 pureQ 7 [(266, ZoW)] [] ZP9 ZQa ⟨ZnA, trivial⟩ Tryz.func262 Tryz.call262 trivial (t := fun a => rOfT a) (fun a => by kernel_rfl)
abbrev ZFd : List Sh := [Sh.one (R.int i64), Sh.agg rcF7, Sh.one R.bool, Sh.one R.bool]
abbrev ZFe : Rs := Rs.one (Sh.agg rcF7)
def ZnC (chip : Int) (f : TF) (k : Bool) (v : Bool) : RT TF :=
 .leaf ((f.1, f.2.1, rOn chip && bif rOn chip then k else k, f.2.2.2.1, f.2.2.2.2.1, bif rOn chip then rOn chip && v else rOn chip && v, f.2.2.2.2.2.2))
def ZmZ (chip : Int) (f : TF) (k : Bool) (v : Bool) : TF := (ZnC chip f k v).val
def ZsV : Entry := Zk ZFd ZFe (fun _ => none) (fun a => ZmZ a.1 a.2.1 a.2.2.1 a.2.2.2)
theorem Zjg : Zc Tryz.prog 263 ZsV :=
 pureQ 511 [(146, rOnE)] [] ZFd ZFe ⟨Zf3, trivial⟩ Tryz.func263 Tryz.call263 trivial (t := fun a => ZnC a.1 a.2.1 a.2.2.1 a.2.2.2) (fun a => by kernel_rfl)
abbrev ZFw : List Sh := [Sh.agg Zd0, Sh.one (R.int i64)]
abbrev Zzk : Rs := Rs.one (Sh.one (R.int u8))
def ZvT (r : TR) (n : Int) : RT (Option (Int)) :=
 .br (decide (0 ≤ andI i64 n 7 ∧ andI i64 n 7 < 8)) (.leaf (some (bif andI i64 n 7 == 0 then r.2.1 else bif andI i64 n 7 == ↑(0 + 1) then r.2.2.1 else bif andI i64 n 7 == ↑(0 + 1 + 1) then r.2.2.2.1 else bif andI i64 n 7 == ↑(0 + 1 + 1 + 1) then r.2.2.2.2.1 else bif andI i64 n 7 == ↑(0 + 1 + 1 + 1 + 1) then r.2.2.2.2.2.1 else bif andI i64 n 7 == ↑(0 + 1 + 1 + 1 + 1 + 1) then r.2.2.2.2.2.2.1 else bif andI i64 n 7 == ↑(0 + 1 + 1 + 1 + 1 + 1 + 1) then 0 else r.1))) (.leaf none)
def rGet (r : TR) (n : Int) : Int := getO Zzk.dflt (ZvT r n).val
def ZvV (r : TR) (n : Int) : Bool := okB (ZvT r n).val
def ZQe : Entry := Zk ZFw Zzk (fun a => some (ZvV a.1 a.2)) (fun a => rGet a.1 a.2)
theorem ZFv : Zc Tryz.prog 163 ZQe :=
 pureP 31 [] [] ZFw Zzk trivial Tryz.func163 Tryz.call163 trivial (t := fun a => ZvT a.1 a.2) (fun a => by kernel_rfl)
abbrev ZL3 : List Sh := [Sh.agg Zd0, Sh.one (R.int i64), Sh.one (R.int u8)]
abbrev ZL4 : Rs := Rs.one (Sh.agg Zd0)
def ZNE (r : TR) (n : Int) (v : Int) : RT TR :=
 .leaf ((bif andI i64 n 7 == 0 then r.1 else bif andI i64 n 7 == 1 then r.1 else bif andI i64 n 7 == 2 then r.1 else bif andI i64 n 7 == 3 then r.1 else bif andI i64 n 7 == 4 then r.1 else bif andI i64 n 7 == 5 then r.1 else bif andI i64 n 7 == 7 then v else r.1, bif andI i64 n 7 == 0 then v else r.2.1, bif andI i64 n 7 == 0 then r.2.2.1 else bif andI i64 n 7 == 1 then v else r.2.2.1, bif andI i64 n 7 == 0 then r.2.2.2.1 else bif andI i64 n 7 == 1 then r.2.2.2.1 else bif andI i64 n 7 == 2 then v else r.2.2.2.1, bif andI i64 n 7 == 0 then r.2.2.2.2.1 else bif andI i64 n 7 == 1 then r.2.2.2.2.1 else bif andI i64 n 7 == 2 then r.2.2.2.2.1 else bif andI i64 n 7 == 3 then v else r.2.2.2.2.1, bif andI i64 n 7 == 0 then r.2.2.2.2.2.1 else bif andI i64 n 7 == 1 then r.2.2.2.2.2.1 else bif andI i64 n 7 == 2 then r.2.2.2.2.2.1 else bif andI i64 n 7 == 3 then r.2.2.2.2.2.1 else bif andI i64 n 7 == 4 then v else r.2.2.2.2.2.1, bif andI i64 n 7 == 0 then r.2.2.2.2.2.2.1 else bif andI i64 n 7 == 1 then r.2.2.2.2.2.2.1 else bif andI i64 n 7 == 2 then r.2.2.2.2.2.2.1 else bif andI i64 n 7 == 3 then r.2.2.2.2.2.2.1 else bif andI i64 n 7 == 4 then r.2.2.2.2.2.2.1 else bif andI i64 n 7 == 5 then v else r.2.2.2.2.2.2.1, r.2.2.2.2.2.2.2))
def rSet (r : TR) (n : Int) (v : Int) : TR := (ZNE r n v).val
def ZBc : Entry := Zk ZL3 ZL4 (fun _ => none) (fun a => rSet a.1 a.2.1 a.2.2)
theorem ZuW : Zc Tryz.prog 205 ZBc :=
 pureQ 9162596991 [] [] ZL3 ZL4 trivial Tryz.func205 Tryz.call205 trivial (t := fun a => ZNE a.1 a.2.1 a.2.2) (fun a => by kernel_rfl)
abbrev Zu5 : List Sh := [Sh.agg Zd0, Sh.one (R.int i64)]
abbrev ZoX : Rs := Rs.one (Sh.one (R.int u16))
def ZnB (r : TR) (n : Int) : RT (Option (Int)) :=
 .br (andI i64 n 3 == 3) (.leaf (some r.2.2.2.2.2.2.2.2.1)) (.br (!ZvV r (i64.wrap (2 * andI i64 n 3)) || ZvV r (i64.wrap (i64.wrap (2 * andI i64 n 3) + 1))) (.br (ZvV r (i64.wrap (2 * andI i64 n 3))) (.leaf (some (Zcg (rGet r (i64.wrap (2 * andI i64 n 3))) (rGet r (i64.wrap (i64.wrap (2 * andI i64 n 3) + 1)))))) (.leaf none)) (.leaf none))
def Zac (r : TR) (n : Int) : Int := getO ZoX.dflt (ZnB r n).val
def ZE8 (r : TR) (n : Int) : Bool := okB (ZnB r n).val
def ZP4 : Entry := Zk Zu5 ZoX (fun a => some (ZE8 a.1 a.2)) (fun a => Zac a.1 a.2)
theorem ZJ2 : Zc Tryz.prog 158 ZP4 :=
 pureP 31 [(163, ZQe), (172, ZkN)] [] Zu5 ZoX ⟨ZFv, ZgO, trivial⟩ Tryz.func158 Tryz.call158 trivial (t := fun a => ZnB a.1 a.2) (fun a => by kernel_rfl)
abbrev Znv : List Sh := [Sh.agg Zd0, Sh.one (R.int i64), Sh.one (R.int u16)]
abbrev Znw : Rs := Rs.one (Sh.agg Zd0)
def Ze0 (r : TR) (n : Int) (v : Int) : RT TR :=
 .br (andI i64 n 3 == 3) (.leaf ((r.1, r.2.1, r.2.2.1, r.2.2.2.1, r.2.2.2.2.1, r.2.2.2.2.2.1, r.2.2.2.2.2.2.1, r.2.2.2.2.2.2.2.1, v, r.2.2.2.2.2.2.2.2.2))) (.leaf (rSet (rSet r (i64.wrap (2 * andI i64 n 3)) (u8.wrap (shrI u16 v 8))) (i64.wrap (i64.wrap (2 * andI i64 n 3) + 1)) (u8.wrap v)))
def Zr (r : TR) (n : Int) (v : Int) : TR := (Ze0 r n v).val
def Ze1 : Entry := Zk Znv Znw (fun _ => none) (fun a => Zr a.1 a.2.1 a.2.2)
theorem Zj4 : Zc Tryz.prog 206 Ze1 :=
 pureQ 127 [(205, ZBc)] [] Znv Znw ⟨ZuW, trivial⟩ Tryz.func206 Tryz.call206 trivial (t := fun a => Ze0 a.1 a.2.1 a.2.2) (fun a => by kernel_rfl)
abbrev ZFa : List Sh := [Sh.one (R.int i64), Sh.agg Zd0]
abbrev Zzb : Rs := Rs.one (Sh.one (R.int u16))
def ZFb (chip : Int) (r : TR) : RT (Option (Int)) :=
 .br (Zza chip r.2.2.2.2.2.2.2.1) (.leaf (some (Zcg r.1 (ZJ4 chip r.2.2.2.2.2.2.2.1)))) (.leaf none)
def rPSW (chip : Int) (r : TR) : Int := getO Zzb.dflt (ZFb chip r).val
def ZNM (chip : Int) (r : TR) : Bool := okB (ZFb chip r).val
def rPSWE : Entry := Zk ZFa Zzb (fun a => some (ZNM a.1 a.2)) (fun a => rPSW a.1 a.2)
theorem ZNL : Zc Tryz.prog 171 rPSWE :=
 pureP 31 [(172, ZkN), (221, ZL7)] [] ZFa Zzb ⟨ZgO, ZJ3, trivial⟩ Tryz.func171 Tryz.call171 trivial (t := fun a => ZFb a.1 a.2) (fun a => by kernel_rfl)
abbrev ZsK : List Sh := [Sh.one (R.int i64), Sh.agg Zd0, Sh.one (R.int u16)]
abbrev ZsL : Rs := Rs.one (Sh.agg Zd0)
def Zjc (chip : Int) (r : TR) (v : Int) : RT TR :=
 .leaf ((u8.wrap (shrI u16 v 8), r.2.1, r.2.2.1, r.2.2.2.1, r.2.2.2.2.1, r.2.2.2.2.2.1, r.2.2.2.2.2.2.1, ZoL chip (u8.wrap v), r.2.2.2.2.2.2.2.2))
def Ze2 (chip : Int) (r : TR) (v : Int) : TR := (Zjc chip r v).val
def ZoO : Entry := Zk ZsK ZsL (fun _ => none) (fun a => Ze2 a.1 a.2.1 a.2.2)
theorem ZBb : Zc Tryz.prog 207 ZoO :=
 pureQ 127 [(259, ZyV)] [] ZsK ZsL ⟨ZBa, trivial⟩ Tryz.func207 Tryz.call207 trivial (t := fun a => Zjc a.1 a.2.1 a.2.2) (fun a => by kernel_rfl)
abbrev ZQg : List Sh := [Sh.one (R.int i64), Sh.one (R.int i64), Sh.one (R.int u8), Sh.one (R.int u8), Sh.agg rcF7]
abbrev ZQh : Rs := Rs.tup [Sh.one (R.int u8), Sh.agg rcF7]
def rDoT (chip : Int) (op : Int) (a : Int) (b : Int) (f : TF) : RT (QT2) :=
 let x1 := bif andI i64 op 7 == 0 then andI i64 op 7 == 0 else andI i64 op 7 == 1
 let x2 := bif andI i64 op 7 == 2 then andI i64 op 7 == 2 else bif andI i64 op 7 == 3 then andI i64 op 7 == 3 else andI i64 op 7 == 7
 let x3 : Int := bif x1 then bif andI i64 op 7 == 1 then (rSum a b f.2.2.2.2.2.2).1 else (rSum a b false).1 else bif x2 then bif andI i64 op 7 == 3 then (Zb3 a b f.2.2.2.2.2.2).1 else (Zb3 a b false).1 else bif andI i64 op 7 == 4 then bif rOn chip then andI u8 a b else andI u8 a b else bif andI i64 op 7 == 5 then xorI u8 a b else bif andI i64 op 7 == 6 then orI u8 a b else 0
 let x4 := rOf x3
 let x5 := x4.2
 let x6 := x5.2
 let x7 := x6.2.2
 let x8 := ZmZ chip (x4.1, x5.1, x6.1, bif x1 then bif andI i64 op 7 == 1 then (rSum a b f.2.2.2.2.2.2).2.2.1 else (rSum a b false).2.2.1 else bif x2 then bif andI i64 op 7 == 3 then (Zb3 a b f.2.2.2.2.2.2).2.2.1 else (Zb3 a b false).2.2.1 else andI i64 op 7 == 4 && (rOn chip || andI u8 (orI u8 a b) 8 != 0), x7.1, x7.2.1, bif x1 then bif andI i64 op 7 == 1 then (rSum a b f.2.2.2.2.2.2).2.1 else (rSum a b false).2.1 else x2 && bif andI i64 op 7 == 3 then (Zb3 a b f.2.2.2.2.2.2).2.1 else (Zb3 a b false).2.1) (rMaj (decide (a ≥ 128)) (bif x1 then decide (b ≥ 128) else bif x2 then !decide (b ≥ 128) else decide (b ≥ 128)) (decide (x3 ≥ 128))) (bif x1 then bif andI i64 op 7 == 1 then (rSum a b f.2.2.2.2.2.2).2.2.2 else (rSum a b false).2.2.2 else x2 && bif andI i64 op 7 == 3 then (Zb3 a b f.2.2.2.2.2.2).2.2.2 else (Zb3 a b false).2.2.2)
 .br (andI i64 op 7 == 7) (.leaf ((a, x8))) (.leaf ((x3, x8)))
def rDo (chip : Int) (op : Int) (a : Int) (b : Int) (f : TF) : QT2 := (rDoT chip op a b f).val
def rDoE : Entry := Zk ZQg ZQh (fun _ => none) (fun a => rDo a.1 a.2.1 a.2.2.1 a.2.2.2.1 a.2.2.2.2)
theorem ZQf : Zc Tryz.prog 208 rDoE :=
 pureQ 1246707057321695066193919 [(146, rOnE), (260, ZJT), (261, Zzr), (262, rOfE), (263, ZsV), (264, ZBs)] [] ZQg ZQh ⟨Zf3, ZuU, ZpU, Zzd, Zjg, ZkL, trivial⟩ Tryz.func208 Tryz.call208 trivial (t := fun a => rDoT a.1 a.2.1 a.2.2.1 a.2.2.2.1 a.2.2.2.2) (fun a => by kernel_rfl)
abbrev ZMi : List Sh := [Sh.one (R.int i64), Sh.one (R.int u8), Sh.agg rcF7]
abbrev ZMj : Rs := Rs.tup [Sh.one (R.int u8), Sh.agg rcF7]
def ZNS (chip : Int) (v : Int) (f : TF) : RT (QT2) :=
 .leaf (((rSum v 1 false).1, ZmZ chip ((rOf (rSum v 1 false).1).1, (rOf (rSum v 1 false).1).2.1, (rOf (rSum v 1 false).1).2.2.1, (rSum v 1 false).2.2.1, (rOf (rSum v 1 false).1).2.2.2.2.1, (rOf (rSum v 1 false).1).2.2.2.2.2.1, f.2.2.2.2.2.2) (rMaj (decide (v ≥ 128)) false (decide ((rSum v 1 false).1 ≥ 128))) (rSum v 1 false).2.2.2))
def rInr (chip : Int) (v : Int) (f : TF) : QT2 := (ZNS chip v f).val
def ZQd : Entry := Zk ZMi ZMj (fun _ => none) (fun a => rInr a.1 a.2.1 a.2.2)
theorem ZNR : Zc Tryz.prog 218 ZQd :=
 pureQ 8191 [(260, ZJT), (262, rOfE), (263, ZsV), (264, ZBs)] [] ZMi ZMj ⟨ZuU, Zzd, Zjg, ZkL, trivial⟩ Tryz.func218 Tryz.call218 trivial (t := fun a => ZNS a.1 a.2.1 a.2.2) (fun a => by kernel_rfl)
abbrev ZMn : List Sh := [Sh.one (R.int i64), Sh.one (R.int u8), Sh.agg rcF7]
abbrev ZMo : Rs := Rs.tup [Sh.one (R.int u8), Sh.agg rcF7]
def ZNY (chip : Int) (v : Int) (f : TF) : RT (QT2) :=
 .leaf (((Zb3 v 1 false).1, ZmZ chip ((rOf (Zb3 v 1 false).1).1, (rOf (Zb3 v 1 false).1).2.1, (rOf (Zb3 v 1 false).1).2.2.1, (Zb3 v 1 false).2.2.1, (rOf (Zb3 v 1 false).1).2.2.2.2.1, (rOf (Zb3 v 1 false).1).2.2.2.2.2.1, f.2.2.2.2.2.2) (rMaj (decide (v ≥ 128)) true (decide ((Zb3 v 1 false).1 ≥ 128))) (Zb3 v 1 false).2.2.2))
def rDcr (chip : Int) (v : Int) (f : TF) : QT2 := (ZNY chip v f).val
def ZQi : Entry := Zk ZMn ZMo (fun _ => none) (fun a => rDcr a.1 a.2.1 a.2.2)
theorem ZNX : Zc Tryz.prog 219 ZQi :=
 pureQ 8191 [(261, Zzr), (262, rOfE), (263, ZsV), (264, ZBs)] [] ZMn ZMo ⟨ZpU, Zzd, Zjg, ZkL, trivial⟩ Tryz.func219 Tryz.call219 trivial (t := fun a => ZNY a.1 a.2.1 a.2.2) (fun a => by kernel_rfl)
abbrev ZMg : List Sh := [Sh.one (R.int i64), Sh.one (R.int u16), Sh.agg rcF7]
abbrev ZMh : Rs := Rs.tup [Sh.one (R.int u16), Sh.agg rcF7]
def ZNP (chip : Int) (v : Int) (f : TF) : RT (QT2) :=
 .leaf ((u16.wrap (v + 1), f.1, f.2.1, bif rOn chip then v == 65535 else f.2.2.1, f.2.2.2))
def rInx (chip : Int) (v : Int) (f : TF) : QT2 := (ZNP chip v f).val
def ZNQ : Entry := Zk ZMg ZMh (fun _ => none) (fun a => rInx a.1 a.2.1 a.2.2)
theorem ZNO : Zc Tryz.prog 209 ZNQ :=
 pureQ 255 [(146, rOnE)] [] ZMg ZMh ⟨Zf3, trivial⟩ Tryz.func209 Tryz.call209 trivial (t := fun a => ZNP a.1 a.2.1 a.2.2) (fun a => by kernel_rfl)
abbrev ZMl : List Sh := [Sh.one (R.int i64), Sh.one (R.int u16), Sh.agg rcF7]
abbrev ZMm : Rs := Rs.tup [Sh.one (R.int u16), Sh.agg rcF7]
def ZNV (chip : Int) (v : Int) (f : TF) : RT (QT2) :=
 .leaf ((u16.wrap (v - 1), f.1, f.2.1, bif rOn chip then v == 0 else f.2.2.1, f.2.2.2))
def rDcx (chip : Int) (v : Int) (f : TF) : QT2 := (ZNV chip v f).val
def ZNW : Entry := Zk ZMl ZMm (fun _ => none) (fun a => rDcx a.1 a.2.1 a.2.2)
theorem ZNU : Zc Tryz.prog 210 ZNW :=
 pureQ 255 [(146, rOnE)] [] ZMl ZMm ⟨Zf3, trivial⟩ Tryz.func210 Tryz.call210 trivial (t := fun a => ZNV a.1 a.2.1 a.2.2) (fun a => by kernel_rfl)
abbrev ZMp : List Sh := [Sh.one (R.int i64), Sh.one (R.int u16), Sh.one (R.int u16), Sh.agg rcF7]
abbrev ZMq : Rs := Rs.tup [Sh.one (R.int u16), Sh.agg rcF7]
def ZN0 (chip : Int) (a : Int) (b : Int) (f : TF) : RT (QT2) :=
 .leaf ((u16.wrap (a + b), f.1, f.2.1, f.2.2.1, f.2.2.2.1, f.2.2.2.2.1, bif rOn chip then decide (i64.wrap (i64.wrap (IntKind.i16.wrap a) + i64.wrap (IntKind.i16.wrap b)) < -32768) || decide (i64.wrap (i64.wrap (IntKind.i16.wrap a) + i64.wrap (IntKind.i16.wrap b)) > 32767) else f.2.2.2.2.2.1, decide (i64.wrap (i64.wrap a + i64.wrap b) > 65535)))
def rDad (chip : Int) (a : Int) (b : Int) (f : TF) : QT2 := (ZN0 chip a b f).val
def ZN1 : Entry := Zk ZMp ZMq (fun _ => none) (fun a => rDad a.1 a.2.1 a.2.2.1 a.2.2.2)
theorem ZNZ : Zc Tryz.prog 211 ZN1 :=
 pureQ 2047 [(146, rOnE)] [] ZMp ZMq ⟨Zf3, trivial⟩ Tryz.func211 Tryz.call211 trivial (t := fun a => ZN0 a.1 a.2.1 a.2.2.1 a.2.2.2) (fun a => by kernel_rfl)
abbrev ZFL : List Sh := [Sh.one (R.int u16), Sh.one (R.int u16)]
abbrev ZFN : Rs := Rs.tup [Sh.one (R.int u16), Sh.agg rcF7]
def ZFM (a : Int) (b : Int) : RT (QT2) :=
 let x1 := Zb3 (u8.wrap (shrI u16 a 8)) (u8.wrap (shrI u16 b 8)) (Zb3 (u8.wrap a) (u8.wrap b) false).2.1
 let x2 := x1.1
 let x3 := x2 == 0
 let x4 := Zcg x2 (Zb3 (u8.wrap a) (u8.wrap b) false).1
 let x5 := decide (x2 ≥ 128)
 let x6 := rMaj (decide (a ≥ 32768)) (decide (b < 32768)) x5
 let x7 := x1.2
 let x8 := x7.2
 let x9 := x8.1
 let x10 := Zj6 x2
 let x11 := x8.2
 let x12 := x7.1
 .leaf ((bif x3 then x4 else x4, bif x3 then x5 else x5, x3 && (Zb3 (u8.wrap a) (u8.wrap b) false).1 == 0, bif x3 then x6 else x6, bif x3 then x9 else x9, bif x3 then x10 else x10, bif x3 then x11 else x11, bif x3 then x12 else x12))
def Zs2 (a : Int) (b : Int) : QT2 := (ZFM a b).val
def ZFO : Entry := Zk ZFL ZFN (fun _ => none) (fun a => Zs2 a.1 a.2)
theorem ZKh : Zc Tryz.prog 214 ZFO :=
 pureQ 16383 [(172, ZkN), (261, Zzr), (264, ZBs), (266, ZoW)] [] ZFL ZFN ⟨ZgO, ZpU, ZkL, ZnA, trivial⟩ Tryz.func214 Tryz.call214 trivial (t := fun a => ZFM a.1 a.2) (fun a => by kernel_rfl)
abbrev ZMr : List Sh := [Sh.one (R.int i64), Sh.one (R.int u8), Sh.agg rcF7]
abbrev ZMs : Rs := Rs.tup [Sh.one (R.int u8), Sh.agg rcF7]
def ZN3 (chip : Int) (a : Int) (f : TF) : RT (QT2) :=
 let x1 : Int := bif f.2.2.2.1 || decide (andI u8 a 15 > 9) then 6 else 0
 let x2 := rSum a (bif f.2.2.2.2.2.2 || decide (a > 153) then u8.wrap (x1 + 96) else x1) false
 let x3 := x2.1
 let x4 := rOf x3
 let x5 := x4.2
 let x6 := x5.2
 let x7 := x2.2.2
 let x8 := x6.2.2
 .leaf ((x3, ZmZ chip (x4.1, x5.1, x6.1, x7.1, x8.1, x8.2.1, f.2.2.2.2.2.2 || decide (a > 153)) (rMaj (decide (a ≥ 128)) false (decide (x3 ≥ 128))) x7.2))
def rDaa (chip : Int) (a : Int) (f : TF) : QT2 := (ZN3 chip a f).val
def ZN4 : Entry := Zk ZMr ZMs (fun _ => none) (fun a => rDaa a.1 a.2.1 a.2.2)
theorem ZN2 : Zc Tryz.prog 212 ZN4 :=
 pureQ 32767 [(260, ZJT), (262, rOfE), (263, ZsV), (264, ZBs)] [] ZMr ZMs ⟨ZuU, Zzd, Zjg, ZkL, trivial⟩ Tryz.func212 Tryz.call212 trivial (t := fun a => ZN3 a.1 a.2.1 a.2.2) (fun a => by kernel_rfl)
abbrev ZEU : List Sh := [Sh.one (R.int i64), Sh.one (R.int u8), Sh.one R.bool]
abbrev ZyX : Rs := Rs.tup [Sh.one (R.int u8), Sh.one R.bool]
def ZEV (op : Int) (a : Int) (c : Bool) : RT (Option (Int × Bool)) :=
 .br (andI i64 op 3 == 0 || (andI i64 op 3 == 1 || (!andI i64 op 3 == 2 || Zc4 c 0))) (.br (andI i64 op 3 == 0) (.leaf (some ((orI u8 (shlI u8 a 1) (shrI u8 a 7), decide (a ≥ 128))))) (.br (andI i64 op 3 == 1) (.leaf (some ((orI u8 (shrI u8 a 1) (shlI u8 a 7), andI u8 a 1 == 1)))) (.br (andI i64 op 3 == 2) (.leaf (some ((orI u8 (shlI u8 a 1) (rBit c 0), decide (a ≥ 128))))) (.br (Zc4 c 7) (.leaf (some ((orI u8 (shrI u8 a 1) (rBit c 7), andI u8 a 1 == 1)))) (.leaf none))))) (.leaf none)
def rRot (op : Int) (a : Int) (c : Bool) : Int × Bool := getO ZyX.dflt (ZEV op a c).val
def ZNH (op : Int) (a : Int) (c : Bool) : Bool := okB (ZEV op a c).val
def rRotE : Entry := Zk ZEU ZyX (fun a => some (ZNH a.1 a.2.1 a.2.2)) (fun a => rRot a.1 a.2.1 a.2.2)
theorem ZNG : Zc Tryz.prog 213 rRotE :=
 pureP 537396479 [(265, ZKk)] [] ZEU ZyX ⟨Zv7, trivial⟩ Tryz.func213 Tryz.call213 trivial (t := fun a => ZEV a.1 a.2.1 a.2.2) (fun a => by kernel_rfl)
abbrev ZFW : List Sh := [Sh.one (R.int u16)]
abbrev ZFX : Rs := Rs.tup [Sh.one (R.int u16), Sh.one R.bool]
def ZMu (v : Int) : RT (Int × Bool) :=
 .leaf ((orI u16 (shrI u16 v 1) (andI u16 v 32768), andI u16 v 1 == 1))
def ZpW (v : Int) : Int × Bool := (ZMu v).val
def ZFY : Entry := Zk ZFW ZFX (fun _ => none) (fun a => ZpW a)
theorem ZKl : Zc Tryz.prog 215 ZFY :=
 pureQ 15 [] [] ZFW ZFX trivial Tryz.func215 Tryz.call215 trivial (t := fun a => ZMu a) (fun a => by kernel_rfl)
abbrev Zu0 : List Sh := [Sh.one (R.int u16), Sh.one R.bool]
abbrev ZoS : Rs := Rs.tup [Sh.one (R.int u16), Sh.one R.bool, Sh.one R.bool]
def ZsO (v : Int) (c : Bool) : RT (Option (Int × Bool × Bool)) :=
 .br (Zc4 c 0) (.leaf (some ((orI u16 (shlI u16 v 1) (u16.wrap (rBit c 0)), decide (v ≥ 32768), andI u16 (orI u16 (shlI u16 v 1) (u16.wrap (rBit c 0))) 32768 != andI u16 v 32768)))) (.leaf none)
def ZsP (v : Int) (c : Bool) : Int × Bool × Bool := getO ZoS.dflt (ZsO v c).val
def ZE3 (v : Int) (c : Bool) : Bool := okB (ZsO v c).val
def ZP3 : Entry := Zk Zu0 ZoS (fun a => some (ZE3 a.1 a.2)) (fun a => ZsP a.1 a.2)
theorem ZJW : Zc Tryz.prog 216 ZP3 :=
 pureP 255 [(265, ZKk)] [] Zu0 ZoS ⟨Zv7, trivial⟩ Tryz.func216 Tryz.call216 trivial (t := fun a => ZsO a.1 a.2) (fun a => by kernel_rfl)
abbrev Zzt : List Sh := [Sh.one R.bool, Sh.one (R.int i64)]
abbrev ZpV : Rs := Rs.one (Sh.one (R.int u8))
def Zv8 (b : Bool) (n : Int) : RT (Option (Int)) :=
 .br (decide (0 ≤ n)) (.leaf (some (u8.wrap (shlI i64 (rOne b) n)))) (.leaf none)
def Ze6 (b : Bool) (n : Int) : Int := getO ZpV.dflt (Zv8 b n).val
def Zan (b : Bool) (n : Int) : Bool := okB (Zv8 b n).val
def ZFV : Entry := Zk Zzt ZpV (fun a => some (Zan a.1 a.2)) (fun a => Ze6 a.1 a.2)
theorem ZFU : Zc Tryz.prog 217 ZFV :=
 pureP 31 [(267, ZJ6)] [] Zzt ZpV ⟨Zu7, trivial⟩ Tryz.func217 Tryz.call217 trivial (t := fun a => Zv8 a.1 a.2) (fun a => by kernel_rfl)
abbrev ZEX : List Sh := [Sh.agg Zaf, Sh.agg (R.pair R.bool (R.pair R.bool rcF7))]
abbrev ZyY : Rs := Rs.tup [Sh.one (R.int u8), Sh.agg Zaf]
def ZEY (c : TC) (l : QT0) : RT (Option (Int × TC)) :=
 let x1 := bif c.2.2.2.2.2.2.2.2.2.2.1 then c.2.2.2.2.2.2.2.2.2.2.2.1 else c.2.2.1
 .br (!Zan l.2.2.2.1 7 || (!Zan c.2.2.2.2.2.2.2.1 6 || (!Zan l.2.2.2.2.2.2.1 5 || (!Zan l.2.2.2.2.2.2.2.1 4 || Zan x1 3)))) (.br (!Zan l.2.2.2.1 7 || (!Zan c.2.2.2.2.2.2.2.1 6 || (!Zan l.2.2.2.2.2.2.1 5 || Zan l.2.2.2.2.2.2.2.1 4))) (.br (!Zan l.2.2.2.1 7 || (!Zan c.2.2.2.2.2.2.2.1 6 || Zan l.2.2.2.2.2.2.1 5)) (.br (!Zan l.2.2.2.1 7 || Zan c.2.2.2.2.2.2.2.1 6) (.br (Zan l.2.2.2.1 7) (.leaf (some ((orI u8 (orI u8 (orI u8 (orI u8 (orI u8 (Ze6 l.2.2.2.1 7) (Ze6 c.2.2.2.2.2.2.2.1 6)) (Ze6 l.2.2.2.2.2.2.1 5)) (Ze6 l.2.2.2.2.2.2.2.1 4)) (Ze6 x1 3)) (andI u8 c.2.2.2.2.2.1 7), c.1, c.2.1, c.2.2.1, c.2.2.2.1, c.2.2.2.2.1, c.2.2.2.2.2.1, c.2.2.2.2.2.2.1, c.2.2.2.2.2.2.2.1, c.2.2.2.2.2.2.2.2.1, c.2.2.2.2.2.2.2.2.2.1, false, false, c.2.2.2.2.2.2.2.2.2.2.2.2)))) (.leaf none)) (.leaf none)) (.leaf none)) (.leaf none)) (.leaf none)
def rRim (c : TC) (l : QT0) : Int × TC := getO ZyY.dflt (ZEY c l).val
def ZNJ (c : TC) (l : QT0) : Bool := okB (ZEY c l).val
def rRimE : Entry := Zk ZEX ZyY (fun a => some (ZNJ a.1 a.2)) (fun a => rRim a.1 a.2)
theorem ZNI : Zc Tryz.prog 159 rRimE :=
 pureP 255 [(217, ZFV)] [] ZEX ZyY ⟨ZFU, trivial⟩ Tryz.func159 Tryz.call159 trivial (t := fun a => ZEY a.1 a.2) (fun a => by kernel_rfl)
abbrev ZL1 : List Sh := [Sh.agg Zaf, Sh.one (R.int u8)]
abbrev ZL2 : Rs := Rs.one (Sh.agg Zaf)
def ZEQ (c : TC) (a : Int) : RT TC :=
 .leaf ((c.1, c.2.1, c.2.2.1, c.2.2.2.1, c.2.2.2.2.1, bif andI u8 a 8 != 0 then andI u8 a 7 else c.2.2.2.2.2.1, c.2.2.2.2.2.2.1, !andI u8 a 16 != 0 && c.2.2.2.2.2.2.2.1, c.2.2.2.2.2.2.2.2.1, c.2.2.2.2.2.2.2.2.2.1, c.2.2.2.2.2.2.2.2.2.2.1, c.2.2.2.2.2.2.2.2.2.2.2.1, bif andI u8 a 64 != 0 then andI u8 a 128 != 0 else c.2.2.2.2.2.2.2.2.2.2.2.2))
def rSim (c : TC) (a : Int) : TC := (ZEQ c a).val
def ZP2 : Entry := Zk ZL1 ZL2 (fun _ => none) (fun a => rSim a.1 a.2)
theorem ZND : Zc Tryz.prog 160 ZP2 :=
 pureQ 31 [] [] ZL1 ZL2 trivial Tryz.func160 Tryz.call160 trivial (t := fun a => ZEQ a.1 a.2) (fun a => by kernel_rfl)
abbrev Zzi : List Sh := [Sh.one (R.int i64), Sh.agg rcF7]
abbrev Zzj : Rs := Rs.one (Sh.one R.bool)
def ZvS (c : Int) (f : TF) : RT (Bool) :=
 .br (c == 0) (.leaf (!f.2.1)) (.br (c == 1) (.leaf f.2.1) (.br (c == 2) (.leaf (!f.2.2.2.2.2.2)) (.br (c == 3) (.leaf f.2.2.2.2.2.2) (.br (c == 4) (.leaf (!f.2.2.2.2.1)) (.br (c == 5) (.leaf f.2.2.2.2.1) (.br (c == 6) (.leaf (!f.1)) (.br (c == 7) (.leaf f.1) (.br (c == 8) (.leaf (!f.2.2.1)) (.br (c == 9) (.leaf f.2.2.1) (.br (c == 10) (.leaf f.2.2.2.2.2.1) (.leaf (c == 11))))))))))))
def ZdG (c : Int) (f : TF) : Bool := (ZvS c f).val
def ZFu : Entry := Zk Zzi Zzj (fun _ => none) (fun a => ZdG a.1 a.2)
theorem ZFt : Zc Tryz.prog 220 ZFu :=
 pureQ 2397219371124831 [] [] Zzi Zzj trivial Tryz.func220 Tryz.call220 trivial (t := fun a => ZvS a.1 a.2) (fun a => by kernel_rfl)
abbrev ZsA : List Sh := [Sh.one (R.int i64)]
abbrev ZsB : Rs := Rs.one (Sh.one (R.int u16))
def ZoH (s : Int) : RT (Int) :=
 .br (s == 1) (.leaf (36)) (.br (s == 2) (.leaf (60)) (.br (s == 3) (.leaf (52)) (.br (s == 4) (.leaf (44)) (.leaf (0)))))
def Zh (s : Int) : Int := (ZoH s).val
def ZyU : Entry := Zk ZsA ZsB (fun _ => none) (fun a => Zh a)
theorem ZA9 : Zc Tryz.prog 152 ZyU :=
 pureQ 1367 [] [] ZsA ZsB trivial Tryz.func152 Tryz.call152 trivial (t := fun a => ZoH a) (fun a => by kernel_rfl)
abbrev ZkO : List Sh := [Sh.one (R.int i64)]
abbrev ZkP : Rs := Rs.one (Sh.one R.bool)
def ZnF (s : Int) : RT (Bool) :=
 .leaf (decide (s ≥ 1) && decide (s ≤ 4))
def Za (s : Int) : Bool := (ZnF s).val
def ZhO : Entry := Zk ZkO ZkP (fun _ => none) (fun a => Za a)
theorem Ziz : Zc Tryz.prog 104 ZhO :=
 pureQ 7 [] [] ZkO ZkP trivial Tryz.func104 Tryz.call104 trivial (t := fun a => ZnF a) (fun a => by kernel_rfl)
abbrev Zns : List Sh := [Sh.one (R.int u8)]
abbrev Znt : Rs := Rs.tup [Sh.agg (R.pair (R.int i64) (R.pair (R.int i64) (R.pair (R.int i64) (R.pair (R.int i64) (R.pair (R.int i64) (R.pair (R.int i64) (R.pair (R.int i64) (R.int i64)))))))), Sh.one R.bool]
def ZsG (op : Int) : RT (TI × Bool) :=
 .br (op == 8) (.leaf (((40, 1, 0, 0, 0, 0, 0, 0), true))) (.br (op == 16) (.leaf (((41, 1, 0, 0, 0, 0, 0, 0), true))) (.br (op == 24) (.leaf (((42, 1, 0, 0, 0, 0, 0, 0), true))) (.br (op == 32) (.leaf (((38, 1, 0, 0, 0, 0, 0, 0), true))) (.br (op == 40) (.leaf (((43, 2, 0, 0, 0, 0, 0, 0), true))) (.br (op == 48) (.leaf (((39, 1, 0, 0, 0, 0, 0, 0), true))) (.br (op == 56) (.leaf (((44, 2, 0, 0, 0, 0, 0, 0), true))) (.br (op == 203) (.leaf (((45, 1, 0, 0, 0, 0, 10, 0), true))) (.br (op == 217) (.leaf (((46, 1, 0, 0, 0, 0, 0, 0), true))) (.br (op == 221) (.leaf (((24, 3, 0, 0, 0, 0, 8, 0), true))) (.br (op == 237) (.leaf (((47, 1, 0, 0, 0, 0, 0, 0), true))) (.br (op == 253) (.leaf (((24, 3, 0, 0, 0, 0, 9, 0), true))) (.leaf (((0, 0, 0, 0, 0, 0, 0, 0), false))))))))))))))
def ZoM (op : Int) : TI × Bool := (ZsG op).val
def ZsH : Entry := Zk Zns Znt (fun _ => none) (fun a => ZoM a)
theorem ZuV : Zc Tryz.prog 173 ZsH :=
 pureQ 314146179375 [] [] Zns Znt trivial Tryz.func173 Tryz.call173 trivial (t := fun a => ZsG a) (fun a => by kernel_rfl)
abbrev ZFf : List Sh := [Sh.one (R.int i64), Sh.one (R.int i64), Sh.one (R.int i64), Sh.one (R.int i64)]
abbrev Zu8 : Rs := Rs.one (Sh.agg (R.pair (R.int i64) (R.pair (R.int i64) (R.pair (R.int i64) (R.pair (R.int i64) (R.pair (R.int i64) (R.pair (R.int i64) (R.pair (R.int i64) (R.int i64)))))))))
def ZFg (y : Int) (z : Int) (p : Int) (q : Int) : RT (Option TI) :=
 let x1 := decide (0 ≤ i64.wrap (y - 4) ∧ i64.wrap (y - 4) < 4)
 .br (z == 0) (.leaf (some ((1, 1, 0, 0, 0, 0, 0, 0)))) (.br (z == 1) (.br (q == 0) (.leaf (some ((4, 3, 0, 0, p, 0, 0, 0)))) (.leaf (some ((18, 1, 0, 0, p, 0, 0, 0))))) (.br (!z == 2 || ((bif y == 0 then y == 0 else y == 2) || ((bif y == 1 then y == 1 else y == 3) || x1))) (.br (z == 2) (.br (bif y == 0 then y == 0 else y == 2) (.leaf (some ((10, 1, 0, 0, p, 0, 0, 0)))) (.br (bif y == 1 then y == 1 else y == 3) (.leaf (some ((9, 1, 0, 0, p, 0, 0, 0)))) (.leaf (some ((bif i64.wrap (y - 4) == 0 then 8 else bif i64.wrap (y - 4) == ↑(0 + 1) then 7 else bif i64.wrap (y - 4) == ↑(0 + 1 + 1) then 6 else 5, 3, 0, 0, 0, 0, 0, 0)))))) (.br (!z == 3 || decide (0 ≤ q ∧ q < 2)) (.br (z == 3) (.leaf (some ((bif q == 0 then 16 else 17, 1, 0, 0, p, 0, 0, 0)))) (.br (z == 4) (.leaf (some ((14, 1, y, 0, 0, 0, 0, 0)))) (.br (z == 5) (.leaf (some ((15, 1, y, 0, 0, 0, 0, 0)))) (.br (z == 6) (.leaf (some ((3, 2, y, 0, 0, 0, 0, 0)))) (.br (decide (y < 4)) (.leaf (some ((23, 1, 0, 0, 0, y, 0, 0)))) (.br (x1) (.leaf (some ((bif i64.wrap (y - 4) == 0 then 19 else bif i64.wrap (y - 4) == ↑(0 + 1) then 20 else bif i64.wrap (y - 4) == ↑(0 + 1 + 1) then 21 else 22, 1, 0, 0, 0, 0, 0, 0)))) (.leaf none))))))) (.leaf none))) (.leaf none)))
def ZP8 (y : Int) (z : Int) (p : Int) (q : Int) : QT5 := getO Zu8.dflt (ZFg y z p q).val
def ZMb (y : Int) (z : Int) (p : Int) (q : Int) : Bool := okB (ZFg y z p q).val
def ZMa : Entry := Zk ZFf Zu8 (fun a => some (ZMb a.1 a.2.1 a.2.2.1 a.2.2.2)) (fun a => ZP8 a.1 a.2.1 a.2.2.1 a.2.2.2)
theorem ZJ7 : Zc Tryz.prog 174 ZMa :=
 pureP 19211217472071167 [] [] ZFf Zu8 trivial Tryz.func174 Tryz.call174 trivial (t := fun a => ZFg a.1 a.2.1 a.2.2.1 a.2.2.2) (fun a => by kernel_rfl)
abbrev Zzc : List Sh := [Sh.one (R.int i64), Sh.one (R.int i64), Sh.one (R.int i64), Sh.one (R.int i64)]
abbrev ZoY : Rs := Rs.one (Sh.agg (R.pair (R.int i64) (R.pair (R.int i64) (R.pair (R.int i64) (R.pair (R.int i64) (R.pair (R.int i64) (R.pair (R.int i64) (R.pair (R.int i64) (R.int i64)))))))))
def Zu9 (y : Int) (z : Int) (p : Int) (q : Int) : RT (Option TI) :=
 .br (z == 0) (.leaf (some ((26, 1, 0, 0, 0, 0, y, 0)))) (.br (z == 1) (.br (q == 0) (.leaf (some ((31, 1, 0, 0, p, 0, 0, 0)))) (.br (y == 5) (.leaf (some ((28, 1, 0, 0, 0, 0, 0, 0)))) (.br (y == 7) (.leaf (some ((29, 1, 0, 0, 0, 0, 0, 0)))) (.leaf (some ((26, 1, 0, 0, 0, 0, 11, 0))))))) (.br (z == 2 || (!z == 3 || ((bif y == 0 then y == 0 else y == 1) || (y == 2 || (y == 3 || decide (0 ≤ i64.wrap (y - 4) ∧ i64.wrap (y - 4) < 4)))))) (.br (z == 2) (.leaf (some ((24, 3, 0, 0, 0, 0, y, 0)))) (.br (z == 3) (.br (bif y == 0 then y == 0 else y == 1) (.leaf (some ((24, 3, 0, 0, 0, 0, 11, 0)))) (.br (y == 2) (.leaf (some ((34, 2, 0, 0, 0, 0, 0, 0)))) (.br (y == 3) (.leaf (some ((33, 2, 0, 0, 0, 0, 0, 0)))) (.leaf (some ((bif i64.wrap (y - 4) == 0 then 32 else bif i64.wrap (y - 4) == ↑(0 + 1) then 11 else bif i64.wrap (y - 4) == ↑(0 + 1 + 1) then 36 else 35, 1, 0, 0, 0, 0, 0, 0))))))) (.br (z == 4) (.leaf (some ((25, 3, 0, 0, 0, 0, y, 0)))) (.br (z == 5) (.br (q == 0) (.leaf (some ((30, 1, 0, 0, p, 0, 0, 0)))) (.leaf (some ((25, 3, 0, 0, 0, 0, 11, 0))))) (.br (z == 6) (.leaf (some ((13, 2, 0, 0, 0, y, 0, 0)))) (.leaf (some ((27, 1, 0, 0, 0, 0, 0, y))))))))) (.leaf none)))
def ZMc (y : Int) (z : Int) (p : Int) (q : Int) : QT5 := getO ZoY.dflt (Zu9 y z p q).val
def ZFj (y : Int) (z : Int) (p : Int) (q : Int) : Bool := okB (Zu9 y z p q).val
def ZFi : Entry := Zk Zzc ZoY (fun a => some (ZFj a.1 a.2.1 a.2.2.1 a.2.2.2)) (fun a => ZMc a.1 a.2.1 a.2.2.1 a.2.2.2)
theorem ZFh : Zc Tryz.prog 175 ZFi :=
 pureP 2324988294374376959 [] [] Zzc ZoY trivial Tryz.func175 Tryz.call175 trivial (t := fun a => Zu9 a.1 a.2.1 a.2.2.1 a.2.2.2) (fun a => by kernel_rfl)
abbrev ZgP : List Sh := [Sh.one (R.int i64), Sh.one (R.int u8)]
abbrev ZgQ : Rs := Rs.one (Sh.agg (R.pair (R.int i64) (R.pair (R.int i64) (R.pair (R.int i64) (R.pair (R.int i64) (R.pair (R.int i64) (R.pair (R.int i64) (R.pair (R.int i64) (R.int i64)))))))))
def Zei (chip : Int) (op : Int) : RT (Option TI) :=
 .br ((ZoM op).2 && rOn chip) (.leaf (some (ZoM op).1)) (.br (!shrI u8 op 6 == 0 || ZMb (i64.wrap (andI u8 (shrI u8 op 3) 7)) (i64.wrap (andI u8 op 7)) (shrI i64 (i64.wrap (andI u8 (shrI u8 op 3) 7)) 1) (andI i64 (i64.wrap (andI u8 (shrI u8 op 3) 7)) 1)) (.br (shrI u8 op 6 == 0) (.leaf (some (ZP8 (i64.wrap (andI u8 (shrI u8 op 3) 7)) (i64.wrap (andI u8 op 7)) (shrI i64 (i64.wrap (andI u8 (shrI u8 op 3) 7)) 1) (andI i64 (i64.wrap (andI u8 (shrI u8 op 3) 7)) 1)))) (.br (shrI u8 op 6 == 1) (.br (op == 118) (.leaf (some ((37, 1, 0, 0, 0, 0, 0, 0)))) (.leaf (some ((2, 1, i64.wrap (andI u8 (shrI u8 op 3) 7), i64.wrap (andI u8 op 7), 0, 0, 0, 0))))) (.br (shrI u8 op 6 == 2) (.leaf (some ((12, 1, 0, i64.wrap (andI u8 op 7), 0, i64.wrap (andI u8 (shrI u8 op 3) 7), 0, 0)))) (.br (ZFj (i64.wrap (andI u8 (shrI u8 op 3) 7)) (i64.wrap (andI u8 op 7)) (shrI i64 (i64.wrap (andI u8 (shrI u8 op 3) 7)) 1) (andI i64 (i64.wrap (andI u8 (shrI u8 op 3) 7)) 1)) (.leaf (some (ZMc (i64.wrap (andI u8 (shrI u8 op 3) 7)) (i64.wrap (andI u8 op 7)) (shrI i64 (i64.wrap (andI u8 (shrI u8 op 3) 7)) 1) (andI i64 (i64.wrap (andI u8 (shrI u8 op 3) 7)) 1)))) (.leaf none))))) (.leaf none))
def Zb (chip : Int) (op : Int) : QT5 := getO ZgQ.dflt (Zei chip op).val
def Zjj (chip : Int) (op : Int) : Bool := okB (Zei chip op).val
def ZKi : Entry := Zk ZgP ZgQ (fun a => some (Zjj a.1 a.2)) (fun a => Zb a.1 a.2)
theorem ZCa : Zc Tryz.prog 107 ZKi :=
 pureP 70644158956031 [(146, rOnE), (173, ZsH), (174, ZMa), (175, ZFi)] [] ZgP ZgQ ⟨Zf3, ZuV, ZJ7, ZFh, trivial⟩ Tryz.func107 Tryz.call107 trivial (t := fun a => Zei a.1 a.2) (fun a => by kernel_rfl)
theorem Ztd (b : Int) (h : inR .u8 b) : Zjq b = true ∧ Zqk b = Zj6 b := by
 have h1 := Zhv (fun b => Zjq b && (Zqk b == Zj6 b)) (by kernel_rfl) b h
 simpa using h1
theorem ZtP (a b c : Bool) : pMaj a b c = rMaj a b c := by cases a <;> cases b <;> cases c <;> rfl
theorem ZMS (a : Bool) : pOne a = rOne a := by cases a <;> rfl
theorem ZEq (a b : Int) (c : Bool) : pSum a b c = rSum a b c := by
 simp only [pSum, ZOc, rSum, ZJS, RT.val, Bool.cond_self, Zk4, Zjn, Zdm, Zjb, ZMS]
theorem Zyp (a b : Int) (c : Bool) : Zgk a b c = Zb3 a b c := by
 have h1 := ZQ6 a
 have h2 := ZQ6 b
 have e : IntKind.wrap .i64 (IntKind.wrap .i64 (IntKind.wrap .i64 (IntKind.wrap .i64 (andI .u8 a 15) + 15) - IntKind.wrap .i64 (andI .u8 b 15)) + 1) = IntKind.wrap .i64 (IntKind.wrap .i64 (IntKind.wrap .i64 (andI .u8 a 15) + IntKind.wrap .i64 (IntKind.wrap .u8 (15 - andI .u8 b 15))) + 1) := by
  rw [ZNd]
  rw [wrap_i64 (andI .u8 a 15) (by omega) (by omega), wrap_i64 (andI .u8 b 15) (by omega) (by omega), wrap_i64 ((15 - andI .u8 b 15) % 256) (by omega) (by omega), wrap_i64 (andI .u8 a 15 + 15) (by omega) (by omega)]
  congr 1; rw [wrap_i64 _ (by omega) (by omega), wrap_i64 _ (by omega) (by omega)]; omega
 simp only [Zgk, ZHq, Zb3, Zzq, RT.val, Bool.cond_self, Zk4, Zjn, Zdm, Zjb, ZMS, e]
theorem ZrJ (a b : Int) : ZG2 a b = Zcg a b := rfl
theorem ZJl (b : Bool) (n : Int) (h : 0 ≤ n) : ZdN b n = true ∧ pBit b n = bif b then shlI .u8 1 n else 0 := by
 cases b <;> simp [ZdN, pBit, ZKY, RT.val, h, okB, getO]
theorem Zdk (b : Bool) (n : Int) (h : 0 ≤ n) : Zc4 b n = true ∧ rBit b n = bif b then shlI .u8 1 n else 0 := by
 cases b <;> simp [Zc4, rBit, ZKj, RT.val, h, okB, getO]
theorem ZaW (chip : Int) : rOn chip = (chip == 2) := rfl
theorem ZQn (chip : Int) (f) : ZzN chip f = true := by
 cases h : chip == 2 <;> simp [ZzN, Zto, RT.val, ZJl, okB, h]
theorem ZEG (chip : Int) (f) : Zza chip f = true := by
 cases h : chip == 2 <;> simp [Zza, ZsU, RT.val, Zdk, ZaW, okB, h]
theorem ZOb (chip : Int) (f) : ZKG chip f = ZJ4 chip f := by
 simp only [ZKG, Zto, ZJ4, ZsU, RT.val, ZJl, Zdk, ZaW]; cases chip == 2 <;> simp [ZJl, Zdk, getO]
theorem of_C (r : Int) (h : inR .u8 r) : pOfC r = true := by simp [pOfC, pOfT, RT.val, Ztd r h, okB]
theorem ZtA (r : Int) (h : inR .u8 r) : pOf r = rOf r := by simp [pOf, pOfT, rOf, rOfT, RT.val, Ztd r h, getO]
theorem ZPo (r) (n : Int) : ZvV r n = true := by
 have := and7 n
 have h : decide (0 ≤ andI .i64 n 7 ∧ andI .i64 n 7 < 8) = true := by simp; omega
 simp only [ZvV, ZvT, RT.val, h, cond_true, okB]
theorem ZI4 {m : Int} (h : 0 ≤ m ∧ m ≤ 7) : m = 0 ∨ m = 1 ∨ m = 2 ∨ m = 3 ∨ m = 4 ∨ m = 5 ∨ m = 6 ∨ m = 7 := by omega
theorem ZGm (r) (n : Int) : pGet r n = rGet r n := by
 have h7 := and7 n
 have h : decide (0 ≤ andI .i64 n 7 ∧ andI .i64 n 7 < 8) = true := by simp; omega
 simp only [pGet, ZOx, rGet, ZvT, RT.val, h, cond_true, getO]
 generalize andI .i64 n 7 = m at *
 rcases ZI4 h7 with rfl | rfl | rfl | rfl | rfl | rfl | rfl | rfl <;> rfl
theorem ZGe (r) (n v : Int) : pSet r n v = rSet r n v := by
 have h7 := and7 n
 simp only [pSet, ZOf, rSet, ZNE, RT.val, cond_true, getO]
 generalize andI .i64 n 7 = m at *
 rcases ZI4 h7 with rfl | rfl | rfl | rfl | rfl | rfl | rfl | rfl <;> rfl
theorem ZKn (r) (n : Int) : ZOm r n = Zac r n := by
 simp only [ZOm, ZGI, Zac, ZnB, RT.val, ZGm, ZPo, ZrJ]
 cases andI .i64 n 3 == 3 <;> simp [okB, getO]
theorem ZNx (r) (n : Int) : ZE8 r n = true := by
 simp only [ZE8, ZnB, RT.val, ZPo]
 cases andI .i64 n 3 == 3 <;> simp [okB]
theorem Zwf (r) (n v : Int) : Zqe r n v = Zr r n v := by
 simp only [Zqe, Zk5, Zr, Ze0, RT.val, ZGe]
theorem ZGh (chip : Int) (r) : ZOo chip r = true ∧ pPSW chip r = rPSW chip r := by
 simp [ZOo, pPSW, ZKH, rPSW, ZFb, RT.val, ZQn, ZEG, ZOb, ZrJ, okB, getO]
theorem ZPY (chip : Int) (r) : ZNM chip r = true := by simp [ZNM, ZFb, RT.val, ZEG, okB]
theorem ZDR (chip : Int) (b : Int) : Zqc chip b = ZoL chip b := by
 simp only [Zqc, Zqb, ZoL, ZoK, RT.val, ZaW]
theorem ZCg (chip : Int) (r) (v : Int) : Zwp chip r v = Ze2 chip r v := by
 simp only [Zwp, Zqf, Ze2, Zjc, RT.val, ZDR]
theorem ZLt (c : Int) (f) : ZG8 c f = ZdG c f := by
 simp only [ZG8, Zxg, ZdG, ZvS, RT.val]
 by_cases h : 0 ≤ c ∧ c ≤ 11
 ·have : c = 0 ∨ c = 1 ∨ c = 2 ∨ c = 3 ∨ c = 4 ∨ c = 5 ∨ c = 6 ∨ c = 7 ∨ c = 8 ∨ c = 9 ∨ c = 10 ∨ c = 11 := by omega
  rcases this with rfl | rfl | rfl | rfl | rfl | rfl | rfl | rfl | rfl | rfl | rfl | rfl <;> simp
 ·have e : ∀ k : Int, 0 ≤ k → k ≤ 11 → (c == k) = false := fun k h1 h2 => by simp; omega
  simp [e]
theorem Zsm (a b : Int) (c : Bool) : inR .u8 (rSum a b c).1 := by
 simp only [rSum, ZJS, RT.val, Bool.cond_self]; exact ZaS _ _
theorem ZmN (a b : Int) (c : Bool) : inR .u8 (Zb3 a b c).1 := by
 simp only [Zb3, Zzq, RT.val, Bool.cond_self]; exact ZaS _ _
theorem Zin (a b : Int) : inR .u8 (andI .u8 a b) ∧ inR .u8 (orI .u8 a b) ∧ inR .u8 (xorI .u8 a b) := ZfO _ _ _
theorem Zsw (chip v r : Int) (half over x : Bool) (f) (h : inR .u8 r) : Zg1 chip v r half over x f = true ∧
  Zla chip v r half over x f = ZmZ chip ((rOf r).1, (rOf r).2.1, (rOf r).2.2.1, half, (rOf r).2.2.2.2.1, (rOf r).2.2.2.2.2.1, f.2.2.2.2.2.2) (rMaj (decide (v ≥ 128)) x (decide (r ≥ 128))) over := by
 cases hc : chip == 2 <;> simp [Zg1, Zla, Zjo, ZmZ, ZnC, RT.val, of_C r h, ZtA r h, okB, getO, ZaW, hc, ZtP, rOf, rOfT]
theorem ZGk (chip v : Int) (f) : ZOv chip v f = true ∧ pInr chip v f = rInr chip v f := by
 have h := Zsw chip v (rSum v 1 false).1 (rSum v 1 false).2.2.1 (rSum v 1 false).2.2.2 false f (Zsm _ _ _)
 simp only [ZOv, pInr, ZKM, rInr, ZNS, RT.val, ZEq, h.1, h.2, cond_true, okB, getO, and_self]
theorem ZGo (chip v : Int) (f) : ZOG chip v f = true ∧ pDcr chip v f = rDcr chip v f := by
 have h := Zsw chip v (Zb3 v 1 false).1 (Zb3 v 1 false).2.2.1 (Zb3 v 1 false).2.2.2 true f (ZmN _ _ _)
 simp only [ZOG, pDcr, ZKU, rDcr, ZNY, RT.val, Zyp, h.1, h.2, cond_true, okB, getO, and_self]
theorem ZN8 (chip v : Int) (f) : pInx chip v f = rInx chip v f := by
 simp only [pInx, ZOt, rInx, ZNP, RT.val, ZaW]
theorem ZN9 (chip v : Int) (f) : pDcx chip v f = rDcx chip v f := by
 simp only [pDcx, ZOE, rDcx, ZNV, RT.val, ZaW]
theorem ZGp (chip a : Int) (f) : ZOK chip a f = true ∧ pDaa chip a f = rDaa chip a f := by
 have h := fun x => of_C _ (Zsm a x false)
 have h2 := fun x => ZtA _ (Zsm a x false)
 cases hc : chip == 2 <;> simp [ZOK, pDaa, ZKW, rDaa, ZN3, ZmZ, ZnC, RT.val, ZEq, h, h2, okB, getO, ZaW, hc, ZtP, rOf, rOfT]
theorem ZzG (a b : Int) : ZHn a b = true ∧ ZOz a b = Zs2 a b := by
 have h := fun x y z => of_C _ (ZmN x y z)
 have h2 := fun x y z => ZtA _ (ZmN x y z)
 simp [ZHn, ZOz, Zz4, Zs2, ZFM, RT.val, Zyp, h, h2, okB, getO, ZtP, ZrJ, rOf, rOfT, Bool.cond_self]
theorem ZKs (v : Int) : ZQA v = ZpW v := rfl
theorem ZMZ (c : Bool) : pLow c = bif c then 1 else 0 := by cases c <;> rfl
theorem ZGf (op a : Int) (c : Bool) : ZOh op a c = true ∧ pRot op a c = rRot op a c := by
 have h3 := and3 op
 simp only [ZOh, pRot, ZKz, rRot, ZEV, RT.val, ZMZ, (Zdk c 0 (by decide)).1, (Zdk c 0 (by decide)).2, (Zdk c 7 (by decide)).1, (Zdk c 7 (by decide)).2]
 generalize andI .i64 op 3 = m at *
 have : m = 0 ∨ m = 1 ∨ m = 2 ∨ m = 3 := by omega
 rcases this with rfl | rfl | rfl | rfl <;> cases c <;> exact ⟨rfl, rfl⟩
theorem ZPX (op a : Int) (c : Bool) : ZNH op a c = true := by
 have h3 := and3 op
 simp only [ZNH, ZEV, RT.val, (Zdk c 0 (by decide)).1, (Zdk c 7 (by decide)).1]
 generalize andI .i64 op 3 = m at *
 have : m = 0 ∨ m = 1 ∨ m = 2 ∨ m = 3 := by omega
 rcases this with rfl | rfl | rfl | rfl <;> rfl
theorem ZKm (v : Int) (c : Bool) (h : inR .u16 v) : ZOl v c = ZsP v c := by
 have hb := Zdk c 0 (by decide)
 have e : IntKind.wrap .u16 (bif c then 1 else 0) = IntKind.wrap .u16 (bif c then shlI .u8 1 0 else 0) := by cases c <;> rfl
 have hr : ∀ x, inR .u16 (orI .u16 x (IntKind.wrap .u16 (bif c then shlI .u8 1 0 else 0))) := fun x => (ZfO _ _ _).2.1
 simp only [ZOl, ZGG, ZsP, ZsO, RT.val, ZMZ, hb.1, hb.2, cond_true, getO, e]
 rw [Zof _ (ZfO _ _ _).2.2, ZEo _ _ (hr _) h, Zyw _ (hr _), Zyw _ h]
 cases tb (orI .u16 (shlI .u16 v 1) (IntKind.wrap .u16 (bif c then shlI .u8 1 0 else 0))) <;> cases tb v <;> rfl
theorem ZNw (v : Int) (c : Bool) : ZE3 v c = true := by
 have hb := Zdk c 0 (by decide)
 simp [ZE3, ZsO, RT.val, hb.1, okB]
theorem ZOa (chip a b : Int) (f) (ha : inR .u16 a) (hb : inR .u16 b) : pDad chip a b f = rDad chip a b f := by
 have hr : inR .u16 (IntKind.wrap .u16 (a + b)) := ZaS _ _
 have ha' := Zia.1 ha
 have hb' := Zia.1 hb
 simp only [pDad, ZOI, rDad, ZN0, RT.val, ZaW]
 rw [Zof _ (ZfO _ _ _).1, ZLU _ _ (ZfO _ _ _).2.2 (ZfO _ _ _).2.2, ZEo _ _ ha hr, ZEo _ _ hb hr]
 have e1 : decide (IntKind.wrap .u16 (a + b) < a) = decide (IntKind.wrap .i64 (IntKind.wrap .i64 a + IntKind.wrap .i64 b) > 65535) := by
  rw [Zyx, wrap_i64 a (by omega) (by omega), wrap_i64 b (by omega) (by omega), wrap_i64 (a + b) (by omega) (by omega)]
  simp only [decide_eq_decide]; omega
 have e2 : (((tb a) ^^ (tb (IntKind.wrap .u16 (a + b)))) && ((tb b) ^^ (tb (IntKind.wrap .u16 (a + b))))) = (decide (IntKind.wrap .i64 (IntKind.wrap .i64 (IntKind.wrap .i16 a) + IntKind.wrap .i64 (IntKind.wrap .i16 b)) < -32768) || decide (IntKind.wrap .i64 (IntKind.wrap .i64 (IntKind.wrap .i16 a) + IntKind.wrap .i64 (IntKind.wrap .i16 b)) > 32767)) := by
  have ia := Zyy a
  have ib := Zyy b
  have hia : -32768 ≤ IntKind.wrap .i16 a ∧ IntKind.wrap .i16 a ≤ 32767 := by rw [ia]; split <;> omega
  have hib : -32768 ≤ IntKind.wrap .i16 b ∧ IntKind.wrap .i16 b ≤ 32767 := by rw [ib]; split <;> omega
  rw [wrap_i64 (IntKind.wrap .i16 a) (by omega) (by omega), wrap_i64 (IntKind.wrap .i16 b) (by omega) (by omega), wrap_i64 (IntKind.wrap .i16 a + IntKind.wrap .i16 b) (by omega) (by omega)]
  rw [ia, ib, Zyx]
  unfold tb
  by_cases h1 : a ≥ 32768 <;> by_cases h2 : b ≥ 32768 <;> by_cases h3 : (a + b) % 65536 ≥ 32768 <;> simp [h1, h2, h3] <;> (try split) <;> (try split) <;> omega
 rw [e1, e2]
theorem Zwg (c l) : ZOj c l = true ∧ pRim c l = rRim c l ∧ ZNJ c l = true := by
 have h : ∀ b n, 0 ≤ n → Zci b n = true ∧ Ztl b n = bif b then shlI .u8 1 n else 0 := fun b n h => by
  cases b <;> simp [Zci, Ztl, ZzJ, RT.val, h, okB, getO]
 have h3 : ∀ b, Zan b 3 = true ∧ Ze6 b 3 = bif b then shlI .u8 1 3 else 0 := fun b => by cases b <;> exact ⟨rfl, rfl⟩
 have h4 : ∀ b, Zan b 4 = true ∧ Ze6 b 4 = bif b then shlI .u8 1 4 else 0 := fun b => by cases b <;> exact ⟨rfl, rfl⟩
 have h5 : ∀ b, Zan b 5 = true ∧ Ze6 b 5 = bif b then shlI .u8 1 5 else 0 := fun b => by cases b <;> exact ⟨rfl, rfl⟩
 have h6 : ∀ b, Zan b 6 = true ∧ Ze6 b 6 = bif b then shlI .u8 1 6 else 0 := fun b => by cases b <;> exact ⟨rfl, rfl⟩
 have h7 : ∀ b, Zan b 7 = true ∧ Ze6 b 7 = bif b then shlI .u8 1 7 else 0 := fun b => by cases b <;> exact ⟨rfl, rfl⟩
 simp [ZOj, pRim, ZKB, ZNJ, rRim, ZEY, RT.val, h, h3, h4, h5, h6, h7, okB, getO]
theorem ZN6 (c) (a : Int) : pSim c a = rSim c a := by
 simp only [pSim, ZOe, rSim, ZEQ, RT.val]
theorem ZCc (s : Int) : Zwl s = Zh s := by
 simp only [Zwl, Zqa, Zh, ZoH, RT.val]
theorem ZGi (chip op a b : Int) : Zqw chip op a b = true ∧ ∀ f, (andI .i64 op 7 = op) → 4 ≤ op → op ≤ 6 → ZzR chip op a b = rDo chip op a b f := by
 have h := fun x y => of_C _ (Zin x y).1
 have h' := fun x y => of_C _ (Zin x y).2.1
 have h'' := fun x y => of_C _ (Zin x y).2.2
 have g := fun x y => ZtA _ (Zin x y).1
 have g' := fun x y => ZtA _ (Zin x y).2.1
 have g'' := fun x y => ZtA _ (Zin x y).2.2
 have h0 := of_C 0 (by rw [Zf6]; omega)
 constructor
 ·cases h4 : op == 4 <;> cases h5 : op == 5 <;> cases h6 : op == 6 <;> simp [Zqw, ZlQ, RT.val, h, h', h'', h0, okB, h4, h5, h6]
 ·intro f e h4 h6
  have : op = 4 ∨ op = 5 ∨ op = 6 := by omega
  rcases this with rfl | rfl | rfl <;> cases hc : chip == 2 <;> simp [ZzR, ZlQ, rDo, rDoT, RT.val, h, h', h'', g, g', g'', getO, e, ZaW, hc, ZmZ, ZnC, rOf, rOfT, ZtP]
theorem ZMz (chip op a b : Int) (f) : pDoC chip op a b f = true ∧ pDo chip op a b f = rDo chip op a b f := by
 have h7 := and7 op
 have hs := fun x => of_C _ (Zsm a b x)
 have hs2 := fun x => ZtA _ (Zsm a b x)
 have hd := fun x => of_C _ (ZmN a b x)
 have hd2 := fun x => ZtA _ (ZmN a b x)
 have hl := ZGi chip (andI .i64 op 7) a b
 have hlt : decide (b < 128) = !decide (128 ≤ b) := by
  by_cases h : b < 128
  ·have : ¬ 128 ≤ b := by omega
   simp [h, this]
  ·have : 128 ≤ b := by omega
   simp [h, this]
 have hr : rDo chip (andI .i64 op 7) a b f = rDo chip op a b f := by
  have : andI .i64 (andI .i64 op 7) 7 = andI .i64 op 7 := by
   generalize andI .i64 op 7 = m at *
   rcases ZI4 h7 with rfl | rfl | rfl | rfl | rfl | rfl | rfl | rfl <;> rfl
  simp only [rDo, rDoT, this]
 have he : andI .i64 (andI .i64 op 7) 7 = andI .i64 op 7 := by
  generalize andI .i64 op 7 = m at *
  rcases ZI4 h7 with rfl | rfl | rfl | rfl | rfl | rfl | rfl | rfl <;> rfl
 rw [← hr]
 have hl2 := hl.2 f he
 have hl1 := hl.1
 clear hl hr
 simp only [pDoC, pDo, pDoT, RT.val]
 generalize andI .i64 op 7 = m at *
 rcases ZI4 h7 with rfl | rfl | rfl | rfl | rfl | rfl | rfl | rfl
 case inr.inr.inr.inr.inl => simp [hl1, hl2, okB, getO]
 case inr.inr.inr.inr.inr.inl => simp [hl1, hl2, okB, getO]
 case inr.inr.inr.inr.inr.inr.inl => simp [hl1, hl2, okB, getO]
 all_goals cases hc : chip == 2 <;> simp [rDo, rDoT, RT.val, ZEq, Zyp, hs, hs2, hd, hd2, okB, getO, he, ZaW, hc, ZmZ, ZnC, rOf, rOfT, ZtP, hlt]
theorem ZGn (chip op : Int) (h : chip ≠ 2) : (Zek chip op).val = (Zek 0 op).val := by
 have h1 : (chip == 2) = false := by simpa using h
 have h0 : ((0 : Int) == 2) = false := rfl
 simp only [Zek, RT.val, h1, h0]
theorem Zsx (chip op : Int) (h : chip ≠ 2) : (Zei chip op).val = (Zei 0 op).val := by
 have h1 : rOn chip = false := by simpa [ZaW] using h
 have h0 : rOn 0 = false := rfl
 simp only [Zei, RT.val, h1, h0]
def decT (chip op : Int) : Bool := okB (Zek chip op).val && okB (Zei chip op).val && (ZlT chip op == Zb chip op)
theorem dec_ok (chip op : Int) (h : inR .u8 op) : Zjt chip op = true ∧ ZlT chip op = Zb chip op ∧ Zjj chip op = true := by
 have fin : ∀ c, decT c op = true → Zjt c op = true ∧ ZlT c op = Zb c op ∧ Zjj c op = true := by
  intro c hc
  simp only [decT, Bool.and_eq_true, beq_iff_eq] at hc
  exact ⟨hc.1.1, hc.2, hc.1.2⟩
 by_cases hc : chip = 2
 ·subst hc; exact fin 2 (Zhv (decT 2) (by kernel_rfl) op h)
 ·have := fin 0 (Zhv (decT 0) (by kernel_rfl) op h)
  unfold Zjt ZlT Zb Zjj at this ⊢
  rw [ZGn chip op hc, Zsx chip op hc]; exact this
def Zqx : Entry := Zk Zxe Zxf (fun _ => none) (fun a => Zcg a.1 a.2)
theorem Ztq : Zc Tryz.prog 236 Zqx := Zjs.tot (fun a h => by simp) (fun a h => ZrJ _ _)
def ZMO : Entry := Zk ZHa ZHb (fun _ => none) (fun a => rGet a.1 a.2)
theorem ZKN : Zc Tryz.prog 287 ZMO := ZG9.tot (fun a h => by simp) (fun a h => ZGm _ _)
def ZkQ : Entry := Zk ZFw Zzk (fun _ => none) (fun a => rGet a.1 a.2)
theorem Zpg : Zc Tryz.prog 163 ZkQ := ZFv.tot (fun a h => by have h1 := ZPo a.1 a.2; simp [h1]) (fun a h => rfl)
def Ztk : Entry := Zk ZGw ZGx (fun _ => none) (fun a => rSet a.1 a.2.1 a.2.2)
theorem ZzI : Zc Tryz.prog 268 Ztk := ZGv.tot (fun a h => by simp) (fun a h => ZGe _ _ _)
def ZGK : Entry := Zk Zwv Zww (fun _ => none) (fun a => Zac a.1 a.2)
theorem ZGJ : Zc Tryz.prog 286 ZGK := ZKE.tot (fun a h => by simp) (fun a h => ZKn _ _)
def Ze3 : Entry := Zk Zu5 ZoX (fun _ => none) (fun a => Zac a.1 a.2)
theorem ZgI : Zc Tryz.prog 158 Ze3 := ZJ2.tot (fun a h => by have h1 := ZNx a.1 a.2; simp [h1]) (fun a h => rfl)
def ZbD : Entry := Zk ZhS ZhT (fun _ => none) (fun a => Zr a.1 a.2.1 a.2.2)
theorem ZdH : Zc Tryz.prog 269 ZbD := Zwn.tot (fun a h => by simp) (fun a h => Zwf _ _ _)
def ZGN : Entry := Zk ZGM ZzO (fun _ => none) (fun a => rPSW a.1 a.2)
theorem ZKI : Zc Tryz.prog 290 ZGN := ZOn.tot (fun a h => by have h1 := (ZGh a.1 a.2).1; simp [h1]) (fun a h => (ZGh _ _).2)
def ZFc : Entry := Zk ZFa Zzb (fun _ => none) (fun a => rPSW a.1 a.2)
theorem ZJ5 : Zc Tryz.prog 171 ZFc := ZNL.tot (fun a h => by have h1 := ZPY a.1 a.2; simp [h1]) (fun a h => rfl)
def Zk8 : Entry := Zk Zk6 Zk7 (fun _ => none) (fun a => Ze2 a.1 a.2.1 a.2.2)
theorem Zwo : Zc Tryz.prog 281 Zk8 := ZCm.tot (fun a h => by simp) (fun a h => ZCg _ _ _)
def ZOC : Entry := Zk ZOA ZKR (fun _ => none) (fun a => rDo a.1 a.2.1 a.2.2.1 a.2.2.2.1 a.2.2.2.2)
theorem ZOB : Zc Tryz.prog 271 ZOC := ZQx.tot (fun a h => by have h1 := (ZMz a.1 a.2.1 a.2.2.1 a.2.2.2.1 a.2.2.2.2).1; simp [h1]) (fun a h => (ZMz _ _ _ _ _).2)
def ZzX : Entry := Zk ZG6 ZzV (fun _ => none) (fun a => rInr a.1 a.2.1 a.2.2)
theorem ZzW : Zc Tryz.prog 273 ZzX := ZOu.tot (fun a h => by have h1 := (ZGk a.1 a.2.1 a.2.2).1; simp [h1]) (fun a h => (ZGk _ _ _).2)
def Zz9 : Entry := Zk ZHw Zz7 (fun _ => none) (fun a => rDcr a.1 a.2.1 a.2.2)
theorem Zz8 : Zc Tryz.prog 274 Zz9 := ZOF.tot (fun a h => by have h1 := (ZGo a.1 a.2.1 a.2.2).1; simp [h1]) (fun a h => (ZGo _ _ _).2)
def ZG5 : Entry := Zk ZG3 ZG4 (fun _ => none) (fun a => rInx a.1 a.2.1 a.2.2)
theorem ZKL : Zc Tryz.prog 275 ZG5 := ZOs.tot (fun a h => by simp) (fun a h => ZN8 _ _ _)
def ZHv : Entry := Zk ZHt ZHu (fun _ => none) (fun a => rDcx a.1 a.2.1 a.2.2)
theorem ZKT : Zc Tryz.prog 276 ZHv := ZOD.tot (fun a h => by simp) (fun a h => ZN9 _ _ _)
def ZHB : Entry := Zk ZHA ZAa (fun _ => none) (fun a => rDaa a.1 a.2.1 a.2.2)
theorem ZKX : Zc Tryz.prog 278 ZHB := ZOJ.tot (fun a h => by have h1 := (ZGp a.1 a.2.1 a.2.2).1; simp [h1]) (fun a h => (ZGp _ _ _).2)
def ZHz : Entry := Zk ZHx ZHy (fun _ => none) (fun a => rDad a.1 a.2.1 a.2.2.1 a.2.2.2)
theorem ZKV : Zc Tryz.prog 277 ZHz := ZOH.tot (fun a h => by simp) (fun a h => ZOa _ _ _ _ h.2.1 h.2.2.1)
def Zxu : Entry := Zk Zxt Zre (fun _ => none) (fun a => Zs2 a.1 a.2)
theorem ZHo : Zc Tryz.prog 283 Zxu := ZKQ.tot (fun a h => by have h1 := (ZzG a.1 a.2).1; simp [h1]) (fun a h => (ZzG _ _).2)
def Zxy : Entry := Zk Zxw Zxx (fun _ => none) (fun a => ZpW a)
theorem ZHD : Zc Tryz.prog 284 Zxy := ZKZ.tot (fun a h => by simp) (fun a h => ZKs _)
def ZGB : Entry := Zk ZGA ZzK (fun _ => none) (fun a => rRot a.1 a.2.1 a.2.2)
theorem ZKA : Zc Tryz.prog 279 ZGB := ZOg.tot (fun a h => by have h1 := (ZGf a.1 a.2.1 a.2.2).1; simp [h1]) (fun a h => (ZGf _ _ _).2)
def ZEW : Entry := Zk ZEU ZyX (fun _ => none) (fun a => rRot a.1 a.2.1 a.2.2)
theorem ZJU : Zc Tryz.prog 213 ZEW := ZNG.tot (fun a h => by have h1 := ZPX a.1 a.2.1 a.2.2; simp [h1]) (fun a h => rfl)
def Zwu : Entry := Zk Zws Zwt (fun _ => none) (fun a => ZsP a.1 a.2)
theorem ZGH : Zc Tryz.prog 285 Zwu := ZKD.tot (fun a h => by simp) (fun a h => ZKm _ _ h.1)
def Zu1 : Entry := Zk Zu0 ZoS (fun _ => none) (fun a => ZsP a.1 a.2)
theorem ZE4 : Zc Tryz.prog 216 Zu1 := ZJW.tot (fun a h => by have h1 := ZNw a.1 a.2; simp [h1]) (fun a h => rfl)
def ZGD : Entry := Zk ZGC ZzL (fun _ => none) (fun a => rRim a.1 a.2)
theorem ZKC : Zc Tryz.prog 227 ZGD := ZOi.tot (fun a h => by have h1 := (Zwg a.1 a.2).1; simp [h1]) (fun a h => (Zwg _ _).2.1)
def ZL5 : Entry := Zk ZEX ZyY (fun _ => none) (fun a => rRim a.1 a.2)
theorem ZJV : Zc Tryz.prog 159 ZL5 := ZNI.tot (fun a h => by have h1 := (Zwg a.1 a.2).2.2; simp [h1]) (fun a h => rfl)
def ZGu : Entry := Zk ZGs ZGt (fun _ => none) (fun a => rSim a.1 a.2)
theorem ZKw : Zc Tryz.prog 228 ZGu := ZOd.tot (fun a h => by simp) (fun a h => ZN6 _ _)
def ZzY : Entry := Zk Zqy Zqz (fun _ => none) (fun a => ZdG a.1 a.2)
theorem ZCA : Zc Tryz.prog 322 ZzY := ZG7.tot (fun a h => by simp) (fun a h => ZLt _ _)
def Ztf : Entry := Zk Zk2 Zk3 (fun _ => none) (fun a => Zh a)
theorem Zwk : Zc Tryz.prog 177 Ztf := ZCk.tot (fun a h => by simp) (fun a h => ZCc _)
def ZHs : Entry := Zk Zg4 Zg5 (fun _ => none) (fun a => Zb a.1 a.2)
theorem Zxv : Zc Tryz.prog 182 ZHs := ZDe.tot (fun a h => by have h1 := (dec_ok a.1 a.2 h.2).1; simp [h1]) (fun a h => (dec_ok a.1 a.2 h.2).2.1)
def ZFR : Entry := Zk ZgP ZgQ (fun _ => none) (fun a => Zb a.1 a.2)
theorem Zv6 : Zc Tryz.prog 107 ZFR := ZCa.tot (fun a h => by have h1 := (dec_ok a.1 a.2 h.2).2.2; simp [h1]) (fun a h => rfl)
abbrev ZM3 : R := R.pair (.int .i64) (R.pair (.int .i64) (R.pair (.int .i64) (R.pair (.int .i64) (R.pair (.int .i64) (R.pair (.int .i64) (.int .i64))))))
def Ztt (k : Int) : Entry := pinE Zg4 ZM3 (fun a => Zb a.1 a.2) k
theorem Zz6 (k : Int) : Zc Tryz.prog 182 (Ztt k) := ZGl Zxv k
def ZFS (k : Int) : Entry := pinE ZgP ZM3 (fun a => Zb a.1 a.2) k
theorem Zzs (k : Int) : Zc Tryz.prog 107 (ZFS k) := ZGl Zv6 k
def pcOf (c : TC) : Int := c.2.1.2.2.2.2.2.2.2.2.2
def spOf (c : TC) : Int := c.2.1.2.2.2.2.2.2.2.2.1
def rgx (r : TR) (f : TF) (sp pc : Int) : TR := (r.1, r.2.1, r.2.2.1, r.2.2.2.1, r.2.2.2.2.1, r.2.2.2.2.2.1, r.2.2.2.2.2.2.1, f, sp, pc)
def fin3 (g : List Int) (l : List TY) : RT (Option (TY × Bool)) := .br (decide (iN (List.length g) ≥ iN (List.length l))) (.leaf (some (((0, 0, 0, 0), false)))) (.br (Zf (iN (List.length g)) (List.length l)) (.leaf (some ((R.get RY l (iN (List.length g)), true)))) (.leaf none))
abbrev ZlR : List Sh := [Sh.one (R.int i64)]
abbrev ZlS : Rs := Rs.one (Sh.one R.bool)
def ZnS (s : Int) : RT (Bool) :=
 .leaf (decide (s ≥ 1) && decide (s ≤ 4))
def Ze (s : Int) : Bool := (ZnS s).val
def ZhU : Entry := Zk ZlR ZlS (fun _ => none) (fun a => Ze a)
theorem ZiA : Zc Tryz.prog 176 ZhU :=
 pureQ 7 [] [] ZlR ZlS trivial Tryz.func176 Tryz.call176 trivial (t := fun a => ZnS a) (fun a => by kernel_rfl)
abbrev ZQl : R := R.pair Zaf (R.pair R.bool (R.pair (R.sl (R.int u8)) (R.pair (R.pair (R.int i64) (R.pair (R.int i64) (R.pair (R.int i64) (R.pair (R.int i64) (R.pair (R.int i64) (R.pair (R.int i64) (R.pair (R.int i64) (R.int i64)))))))) (R.sl (RY)))))
abbrev ZQk : List Sh := [Sh.one (R.int i64)]
abbrev ZN5 : Rs := Rs.one (Sh.one (R.int u8))
def qAtT (s : QT1) (n : Int) : RT (Option (Int)) :=
 .br (!decide (n < ↑(List.length s.2.2.1)) || Zf n (List.length s.2.2.1)) (.br (decide (n < ↑(List.length s.2.2.1))) (.leaf (some (R.get (R.int u8) s.2.2.1 n))) (.leaf (some (0)))) (.leaf none)
def qAt (s : QT1) (n : Int) : Int := getO ZN5.dflt (qAtT s n).val
def qAtC (s : QT1) (n : Int) : Bool := okB (qAtT s n).val
def qAtE : Entry := Zgg ZQl ZQk ZN5 (fun a => some (qAtC a.1 a.2)) (fun a => qAt a.1 a.2)
theorem ZgX : Zc Tryz.prog 222 qAtE :=
 ZdZ (P := Tryz.prog) (n := 31) (k := 8) (l := []) (ol := []) trivial Tryz.func222 rfl (by kernel_rfl) Tryz.call222 trivial (rb := ZQl) (ts := ZQk) (rs := ZN5) (by kernel_rfl) (t := fun a => qAtT a.1 a.2) (fun a => by kernel_rfl)
abbrev ZF8 : R := R.pair Zaf (R.pair R.bool (R.pair (R.sl (R.int u8)) (R.pair (R.pair (R.int i64) (R.pair (R.int i64) (R.pair (R.int i64) (R.pair (R.int i64) (R.pair (R.int i64) (R.pair (R.int i64) (R.pair (R.int i64) (R.int i64)))))))) (R.sl (RY)))))
abbrev ZF7 : List Sh := [Sh.one (R.int i64)]
abbrev Zwc : Rs := Rs.one (Sh.one (R.int u16))
def Zs7 (s : QT1) (n : Int) : RT (Option (Int)) :=
 .br (!qAtC s (i64.wrap (n + 1)) || qAtC s n) (.br (qAtC s (i64.wrap (n + 1))) (.leaf (some (Zcg (qAt s (i64.wrap (n + 1))) (qAt s n)))) (.leaf none)) (.leaf none)
def Ze9 (s : QT1) (n : Int) : Int := getO Zwc.dflt (Zs7 s n).val
def Zch (s : QT1) (n : Int) : Bool := okB (Zs7 s n).val
def ZkW : Entry := Zgg ZF8 ZF7 Zwc (fun a => some (Zch a.1 a.2)) (fun a => Ze9 a.1 a.2)
theorem ZpZ : Zc Tryz.prog 270 ZkW :=
 ZdZ (P := Tryz.prog) (n := 31) (k := 8) (l := [(222, qAtE), (236, Zqx)]) (ol := []) ⟨ZgX, Ztq, trivial⟩ Tryz.func270 rfl (by kernel_rfl) Tryz.call270 trivial (rb := ZF8) (ts := ZF7) (rs := Zwc) (by kernel_rfl) (t := fun a => Zs7 a.1 a.2) (fun a => by kernel_rfl)
abbrev Zta : R := R.pair Zaf (R.pair R.bool (R.pair (R.sl (R.int u8)) (R.pair (R.pair (R.int i64) (R.pair (R.int i64) (R.pair (R.int i64) (R.pair (R.int i64) (R.pair (R.int i64) (R.pair (R.int i64) (R.pair (R.int i64) (R.int i64)))))))) (R.sl (RY)))))
abbrev Zs8 : List Sh := []
abbrev Zs9 : Rs := Rs.one (Sh.one (R.int u16))
def Zzy (s : QT1) : RT (Int) :=
 .br s.2.1 (.leaf s.1.2.1.2.2.2.2.2.2.2.2.2) (.leaf (u16.wrap (s.1.2.1.2.2.2.2.2.2.2.2.2 + u16.wrap s.2.2.2.1.2.1)))
def ZD (s : QT1) : Int := (Zzy s).val
def ZgW : Entry := Zgg Zta Zs8 Zs9 (fun _ => none) (fun a => ZD a.1 )
theorem ZnN : Zc Tryz.prog 223 ZgW :=
 ZfE (P := Tryz.prog) (n := 7) (k := 8) (l := []) (ol := []) trivial Tryz.func223 rfl (by kernel_rfl) Tryz.call223 trivial (rb := Zta) (ts := Zs8) (rs := Zs9) (by kernel_rfl) (t := fun a => Zzy a.1 ) (fun a => by kernel_rfl)
abbrev Zzw : R := R.pair Zaf (R.pair R.bool (R.pair (R.sl (R.int u8)) (R.pair (R.pair (R.int i64) (R.pair (R.int i64) (R.pair (R.int i64) (R.pair (R.int i64) (R.pair (R.int i64) (R.pair (R.int i64) (R.pair (R.int i64) (R.int i64)))))))) (R.sl (RY)))))
abbrev Zzu : List Sh := []
abbrev Zzv : Rs := Rs.one (Sh.one R.bool)
def ZFZ (s : QT1) : RT (Bool) :=
 .leaf (ZdG s.2.2.2.1.2.2.2.2.2.2.1 s.1.2.1.2.2.2.2.2.2.2.1)
def Zf4 (s : QT1) : Bool := (ZFZ s).val
def Zgi : Entry := Zgg Zzw Zzu Zzv (fun _ => none) (fun a => Zf4 a.1 )
theorem ZkS : Zc Tryz.prog 280 Zgi :=
 ZfE (P := Tryz.prog) (n := 7) (k := 8) (l := [(322, ZzY)]) (ol := []) ⟨ZCA, trivial⟩ Tryz.func280 rfl (by kernel_rfl) Tryz.call280 trivial (rb := Zzw) (ts := Zzu) (rs := Zzv) (by kernel_rfl) (t := fun a => ZFZ a.1 ) (fun a => by kernel_rfl)
abbrev ZMx : R := R.pair Zaf (R.pair R.bool (R.pair (R.sl (R.int u8)) (R.pair (R.pair (R.int i64) (R.pair (R.int i64) (R.pair (R.int i64) (R.pair (R.int i64) (R.pair (R.int i64) (R.pair (R.int i64) (R.pair (R.int i64) (R.int i64)))))))) (R.sl (RY)))))
abbrev ZMv : List Sh := [Sh.one (R.int i64)]
abbrev ZMw : Rs := Rs.one (Sh.one (R.int u8))
def ZQj (s : QT1) (n : Int) : RT (Int) :=
 .leaf (rGet s.1.2.1 n)
def qReg (s : QT1) (n : Int) : Int := (ZQj s n).val
def Zs6 : Entry := Zgg ZMx ZMv ZMw (fun _ => none) (fun a => qReg a.1 a.2)
theorem ZpY : Zc Tryz.prog 232 Zs6 :=
 ZfE (P := Tryz.prog) (n := 31) (k := 8) (l := [(287, ZMO)]) (ol := []) ⟨ZKN, trivial⟩ Tryz.func232 rfl (by kernel_rfl) Tryz.call232 trivial (rb := ZMx) (ts := ZMv) (rs := ZMw) (by kernel_rfl) (t := fun a => ZQj a.1 a.2) (fun a => by kernel_rfl)
abbrev ZF6 : R := R.pair Zaf (R.pair R.bool (R.pair (R.sl (R.int u8)) (R.pair (R.pair (R.int i64) (R.pair (R.int i64) (R.pair (R.int i64) (R.pair (R.int i64) (R.pair (R.int i64) (R.pair (R.int i64) (R.pair (R.int i64) (R.int i64)))))))) (R.sl (RY)))))
abbrev ZF4 : List Sh := [Sh.one (R.int i64)]
abbrev ZF5 : Rs := Rs.one (Sh.one (R.int u16))
def ZMy (s : QT1) (n : Int) : RT (Int) :=
 .leaf (Zac s.1.2.1 n)
def Zdn (s : QT1) (n : Int) : Int := (ZMy s n).val
def Ze7 : Entry := Zgg ZF6 ZF4 ZF5 (fun _ => none) (fun a => Zdn a.1 a.2)
theorem ZgR : Zc Tryz.prog 231 Ze7 :=
 ZfE (P := Tryz.prog) (n := 31) (k := 8) (l := [(286, ZGK)]) (ol := []) ⟨ZGJ, trivial⟩ Tryz.func231 rfl (by kernel_rfl) Tryz.call231 trivial (rb := ZF6) (ts := ZF4) (rs := ZF5) (by kernel_rfl) (t := fun a => ZMy a.1 a.2) (fun a => by kernel_rfl)
abbrev ZnM : R := R.pair Zaf (R.pair R.bool (R.pair (R.sl (R.int u8)) (R.pair (R.pair (R.int i64) (R.pair (R.int i64) (R.pair (R.int i64) (R.pair (R.int i64) (R.pair (R.int i64) (R.pair (R.int i64) (R.pair (R.int i64) (R.int i64)))))))) (R.sl (RY)))))
abbrev ZnL : List Sh := []
abbrev ZhQ : Rs := Rs.one (Sh.one (R.int u8))
def ZgU (s : QT1) : RT (Option (Int)) :=
 .br (qAtC s 1) (.leaf (some (bif s.2.2.2.1.1 == 14 then (rInr s.1.1 (qAt s 1) s.1.2.1.2.2.2.2.2.2.2.1).1 else (rDcr s.1.1 (qAt s 1) s.1.2.1.2.2.2.2.2.2.2.1).1))) (.leaf none)
def ZgV (s : QT1) : Int := getO ZhQ.dflt (ZgU s).val
def Zfa (s : QT1) : Bool := okB (ZgU s).val
def ZkX : Entry := Zgg ZnM ZnL ZhQ (fun a => some (Zfa a.1 )) (fun a => ZgV a.1 )
theorem Zwd : Zc Tryz.prog 234 ZkX :=
 ZdZ (P := Tryz.prog) (n := 15) (k := 8) (l := [(222, qAtE), (273, ZzX), (274, Zz9)]) (ol := []) ⟨ZgX, ZzW, Zz8, trivial⟩ Tryz.func234 rfl (by kernel_rfl) Tryz.call234 trivial (rb := ZnM) (ts := ZnL) (rs := ZhQ) (by kernel_rfl) (t := fun a => ZgU a.1 ) (fun a => by kernel_rfl)
abbrev ZnK : R := R.pair Zaf (R.pair R.bool (R.pair (R.sl (R.int u8)) (R.pair (R.pair (R.int i64) (R.pair (R.int i64) (R.pair (R.int i64) (R.pair (R.int i64) (R.pair (R.int i64) (R.pair (R.int i64) (R.pair (R.int i64) (R.int i64)))))))) (R.sl (RY)))))
abbrev ZnJ : List Sh := []
abbrev ZhP : Rs := Rs.one (Sh.one (R.int u8))
def ZgS (s : QT1) : RT (Option (Int)) :=
 let x1 := s.2.2.2.1.1 == 13 || s.2.2.2.1.2.2.2.1 == 6
 .br (!x1 || qAtC s 1) (.br (x1) (.leaf (some (qAt s 1))) (.leaf (some (qReg s s.2.2.2.1.2.2.2.1)))) (.leaf none)
def ZgT (s : QT1) : Int := getO ZhP.dflt (ZgS s).val
def Ze8 (s : QT1) : Bool := okB (ZgS s).val
def ZkV : Entry := Zgg ZnK ZnJ ZhP (fun a => some (Ze8 a.1 )) (fun a => ZgT a.1 )
theorem Zwb : Zc Tryz.prog 272 ZkV :=
 ZdZ (P := Tryz.prog) (n := 7) (k := 8) (l := [(222, qAtE), (232, Zs6)]) (ol := []) ⟨ZgX, ZpY, trivial⟩ Tryz.func272 rfl (by kernel_rfl) Tryz.call272 trivial (rb := ZnK) (ts := ZnJ) (rs := ZhP) (by kernel_rfl) (t := fun a => ZgS a.1 ) (fun a => by kernel_rfl)
abbrev ZQK : R := R.pair Zaf (R.pair R.bool (R.pair (R.sl (R.int u8)) (R.sl (RY))))
abbrev ZQJ : List Sh := [Sh.one (R.int i64)]
abbrev ZO2 : Rs := Rs.one (Sh.one (R.int u8))
def mAtT (s : QT3) (n : Int) : RT (Option (Int)) :=
 .br (!decide (n < ↑(List.length s.2.2.1)) || Zf n (List.length s.2.2.1)) (.br (decide (n < ↑(List.length s.2.2.1))) (.leaf (some (R.get (R.int u8) s.2.2.1 n))) (.leaf (some (0)))) (.leaf none)
def mAt (s : QT3) (n : Int) : Int := getO ZO2.dflt (mAtT s n).val
def mAtC (s : QT3) (n : Int) : Bool := okB (mAtT s n).val
def mAtE : Entry := Zgg ZQK ZQJ ZO2 (fun a => some (mAtC a.1 a.2)) (fun a => mAt a.1 a.2)
theorem ZtY : Zc Tryz.prog 153 mAtE :=
 ZdZ (P := Tryz.prog) (n := 31) (k := 8) (l := []) (ol := []) trivial Tryz.func153 rfl (by kernel_rfl) Tryz.call153 trivial (rb := ZQK) (ts := ZQJ) (rs := ZO2) (by kernel_rfl) (t := fun a => mAtT a.1 a.2) (fun a => by kernel_rfl)
abbrev ZH8 : R := R.pair Zaf (R.pair R.bool (R.pair (R.sl (R.int u8)) (R.sl (RY))))
abbrev ZH7 : List Sh := [Sh.one (R.int i64)]
abbrev Zx0 : Rs := Rs.one (Sh.one (R.int u16))
def ZAi (s : QT3) (n : Int) : RT (Option (Int)) :=
 .br (!mAtC s (i64.wrap (n + 1)) || mAtC s n) (.br (mAtC s (i64.wrap (n + 1))) (.leaf (some (Zcg (mAt s (i64.wrap (n + 1))) (mAt s n)))) (.leaf none)) (.leaf none)
def ZdP (s : QT3) (n : Int) : Int := getO Zx0.dflt (ZAi s n).val
def ZbO (s : QT3) (n : Int) : Bool := okB (ZAi s n).val
def Zmc : Entry := Zgg ZH8 ZH7 Zx0 (fun a => some (ZbO a.1 a.2)) (fun a => ZdP a.1 a.2)
theorem Zrx : Zc Tryz.prog 165 Zmc :=
 ZdZ (P := Tryz.prog) (n := 31) (k := 8) (l := [(153, mAtE), (172, ZkN)]) (ol := []) ⟨ZtY, ZgO, trivial⟩ Tryz.func165 rfl (by kernel_rfl) Tryz.call165 trivial (rb := ZH8) (ts := ZH7) (rs := Zx0) (by kernel_rfl) (t := fun a => ZAi a.1 a.2) (fun a => by kernel_rfl)
abbrev ZtX : R := R.pair Zaf (R.pair R.bool (R.pair (R.sl (R.int u8)) (R.sl (RY))))
abbrev ZtV : List Sh := [Sh.one (R.int i64)]
abbrev ZtW : Rs := Rs.one (Sh.one (R.int u16))
def ZAp (s : QT3) (n : Int) : RT (Int) :=
 .br s.2.1 (.leaf s.1.2.1.2.2.2.2.2.2.2.2.2) (.leaf (u16.wrap (s.1.2.1.2.2.2.2.2.2.2.2.2 + u16.wrap n)))
def ZA (s : QT3) (n : Int) : Int := (ZAp s n).val
def ZfL : Entry := Zgg ZtX ZtV ZtW (fun _ => none) (fun a => ZA a.1 a.2)
theorem Zh4 : Zc Tryz.prog 157 ZfL :=
 ZfE (P := Tryz.prog) (n := 31) (k := 8) (l := []) (ol := []) trivial Tryz.func157 rfl (by kernel_rfl) Tryz.call157 trivial (rb := ZtX) (ts := ZtV) (rs := ZtW) (by kernel_rfl) (t := fun a => ZAp a.1 a.2) (fun a => by kernel_rfl)
abbrev ZAm : R := R.pair Zaf (R.pair R.bool (R.pair (R.sl (R.int u8)) (R.sl (RY))))
abbrev ZAk : List Sh := [Sh.agg (R.pair (R.int i64) (R.pair (R.int i64) (R.pair (R.int i64) (R.pair (R.int i64) (R.pair (R.int i64) (R.pair (R.int i64) (R.pair (R.int i64) (R.int i64))))))))]
abbrev ZAl : Rs := Rs.one (Sh.one R.bool)
def ZIc (s : QT3) (i : QT5) : RT (Bool) :=
 .leaf (ZdG i.2.2.2.2.2.2.1 s.1.2.1.2.2.2.2.2.2.2.1)
def ZdJ (s : QT3) (i : QT5) : Bool := (ZIc s i).val
def Zgn : Entry := Zgg ZAm ZAk ZAl (fun _ => none) (fun a => ZdJ a.1 a.2)
theorem Zme : Zc Tryz.prog 169 Zgn :=
 ZfE (P := Tryz.prog) (n := 31) (k := 8) (l := [(220, ZFu)]) (ol := []) ⟨ZFt, trivial⟩ Tryz.func169 rfl (by kernel_rfl) Tryz.call169 trivial (rb := ZAm) (ts := ZAk) (rs := ZAl) (by kernel_rfl) (t := fun a => ZIc a.1 a.2) (fun a => by kernel_rfl)
abbrev Znq : List Sh := [Sh.agg Zaf, Sh.agg (R.pair (R.int i64) (R.pair (R.int i64) (R.pair (R.int i64) (R.pair (R.int i64) (R.pair (R.int i64) (R.pair (R.int i64) (R.pair (R.int i64) (R.int i64)))))))), Sh.one (R.int u8)]
abbrev Znr : Rs := Rs.tup [Sh.one (R.int u8), Sh.agg rcF7]
def ZsF (c : TC) (i : QT5) (v : Int) : RT (QT2) :=
 .br (i.1 == 14) (.leaf (rInr c.1 v c.2.1.2.2.2.2.2.2.2.1)) (.leaf (rDcr c.1 v c.2.1.2.2.2.2.2.2.2.1))
def ZfF (c : TC) (i : QT5) (v : Int) : QT2 := (ZsF c i v).val
def ZeZ : Entry := Zk Znq Znr (fun _ => none) (fun a => ZfF a.1 a.2.1 a.2.2)
theorem Zj3 : Zc Tryz.prog 166 ZeZ :=
 pureQ 255 [(218, ZQd), (219, ZQi)] [] Znq Znr ⟨ZNR, ZNX, trivial⟩ Tryz.func166 Tryz.call166 trivial (t := fun a => ZsF a.1 a.2.1 a.2.2) (fun a => by kernel_rfl)
abbrev ZlU : List Sh := [Sh.agg Zaf, Sh.one (R.int i64)]
abbrev ZlV : Rs := Rs.one (Sh.agg Zaf)
def Zju (c : TC) (s : Int) : RT TC :=
 .br (decide (s < 1) || decide (s > 5))
 (.leaf (c))
 (.leaf ((c.1, c.2.1, false, false, false, c.2.2.2.2.2.1, !s == 1 && c.2.2.2.2.2.2.1, bif s == 1 then c.2.2.2.2.2.2.2.1 else !s == 2 && c.2.2.2.2.2.2.2.1, c.2.2.2.2.2.2.2.2.1, c.2.2.2.2.2.2.2.2.2.1, s == 1 || c.2.2.2.2.2.2.2.2.2.2.1, bif s == 1 then c.2.2.1 else c.2.2.2.2.2.2.2.2.2.2.2.1, c.2.2.2.2.2.2.2.2.2.2.2.2)))
def Zrg (c : TC) (s : Int) : TC := (Zju c s).val
def ZK0 : Entry := Zk ZlU ZlV (fun _ => none) (fun a => Zrg a.1 a.2)
theorem ZDf : Zc Tryz.prog 110 ZK0 :=
 pureQ 1056799 [] [] ZlU ZlV trivial Tryz.func110 Tryz.call110 trivial (t := fun a => Zju a.1 a.2) (fun a => by kernel_rfl)
abbrev Zs3 : List Sh := [Sh.agg Zaf, Sh.one (R.int i64)]
abbrev Zs4 : Rs := Rs.one (Sh.agg Zaf)
def Zjk (c : TC) (s : Int) : RT TC :=
 .br (decide (s < 1) || decide (s > 5))
 (.leaf (c))
 (.leaf ((c.1, c.2.1, false, false, false, c.2.2.2.2.2.1, !s == 1 && c.2.2.2.2.2.2.1, !s == 2 && c.2.2.2.2.2.2.2.1, c.2.2.2.2.2.2.2.2.1, c.2.2.2.2.2.2.2.2.2.1, s == 1 || c.2.2.2.2.2.2.2.2.2.2.1, bif s == 1 then c.2.2.1 else c.2.2.2.2.2.2.2.2.2.2.2.1, c.2.2.2.2.2.2.2.2.2.2.2.2)))
def Zbo (c : TC) (s : Int) : TC := (Zjk c s).val
def Zjl : Entry := Zk Zs3 Zs4 (fun _ => none) (fun a => Zbo a.1 a.2)
theorem ZnI : Zc Tryz.prog 97 Zjl :=
 pureQ 31 [] [] Zs3 Zs4 trivial Tryz.func97 Tryz.call97 trivial (t := fun a => Zjk a.1 a.2) (fun a => by kernel_rfl)
abbrev ZyZ : List Sh := [Sh.one (R.int i64)]
abbrev Zy0 : Rs := Rs.one (Sh.one R.bool)
def ZEZ (k : Int) : RT (Bool) :=
 .leaf (k == 1 || (k == 2 || (k == 4 || (k == 6 || (k == 8 || k == 9)))))
def ZE0 (k : Int) : Bool := (ZEZ k).val
def ZoQ : Entry := Zk ZyZ Zy0 (fun _ => none) (fun a => ZE0 a)
theorem ZsN : Zc Tryz.prog 103 ZoQ :=
 pureQ 7 [] [] ZyZ Zy0 trivial Tryz.func103 Tryz.call103 trivial (t := fun a => ZEZ a) (fun a => by kernel_rfl)
abbrev Zsy : List Sh := [Sh.one (R.int i64)]
abbrev Zsz : Rs := Rs.one (Sh.one R.bool)
def ZyT (k : Int) : RT (Bool) :=
 .leaf (k == 3 || (k == 5 || k == 7))
def ZEO (k : Int) : Bool := (ZyT k).val
def Zi8 : Entry := Zk Zsy Zsz (fun _ => none) (fun a => ZEO a)
theorem Zno : Zc Tryz.prog 100 Zi8 :=
 pureQ 7 [] [] Zsy Zsz trivial Tryz.func100 Tryz.call100 trivial (t := fun a => ZyT a) (fun a => by kernel_rfl)
theorem ZJr (c) (s : Int) : Zrg c s = Zbo c s := by
 by_cases h : s = 1
 ·subst h; simp [Zrg, Zju, Zbo, Zjk, RT.val]
 ·have h' : (s == 1) = false := by simpa using h
  simp [Zrg, Zju, Zbo, Zjk, RT.val, h']
def Zb5 : Entry := Zk ZlU ZlV (fun _ => none) (fun a => Zbo a.1 a.2)
theorem Zel : Zc Tryz.prog 110 Zb5 := ZDf.tot (fun a h => by simp) (fun a h => ZJr _ _)
end
end Go.Proofs.YtghoimllhpjkjaaGreat
