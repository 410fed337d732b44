/-
  The kinds of instructions, told to the executor. Conditions: none.
-/
import Derived.Test.YtghoimllhpjkjaaGreatS3D
import Derived.Test.YtghoimllhpjkjaaGreatProg
open Go.IntKind (u8 u16 i64)
set_option linter.unusedSimpArgs false
open Go Go.S3 Go.Proofs
set_option linter.unusedVariables false
set_option maxRecDepth 100000
namespace Go.Proofs.YtghoimllhpjkjaaGreat
noncomputable section
abbrev ZpD : List Sh := [Sh.one (R.int u8)]
abbrev ZiO : Rs := Rs.one (Sh.one R.bool)
def Zmx (b : Int) : RT (Option (Bool)) :=
 let x1 := andI u8 (andI u8 b (u8.wrap (b - 1))) (u8.wrap (andI u8 b (u8.wrap (b - 1)) - 1))
 let x2 := !x1 != 0
 let x3 := andI u8 x1 (u8.wrap (x1 - 1))
 let x4 := x3 != 0
 let x5 := andI u8 x3 (u8.wrap (x3 - 1))
 let x6 := !x5 != 0
 let x7 := andI u8 x5 (u8.wrap (x5 - 1))
 let x8 := x7 != 0
 let x9 := andI u8 x7 (u8.wrap (x7 - 1))
 let x10 := !x9 != 0
 let x11 := andI u8 x9 (u8.wrap (x9 - 1))
 let x12 := x11 != 0
 let x13 := andI u8 x11 (u8.wrap (x11 - 1))
 let x14 := !x13 != 0
 .br (!b != 0 || (!andI u8 b (u8.wrap (b - 1)) != 0 || (x2 || (!x4 || (x6 || (!x8 || (x10 || (!x12 || (x14 || !andI u8 x13 (u8.wrap (x13 - 1)) != 0))))))))) (.leaf (some (!b != 0 || andI u8 b (u8.wrap (b - 1)) != 0 && (x2 || x4 && (x6 || x8 && (x10 || x12 && x14)))))) (.leaf none)
def Zmy (b : Int) : Bool := getO ZiO.dflt (Zmx b).val
def ZhP (b : Int) : Bool := okB (Zmx b).val
def Zul : Entry := Zm ZpD ZiO (fun a => some (ZhP a)) (fun a => Zmy a)
theorem Zv0 : Zc Tryz.prog 334 Zul :=
 ZiB (P := Tryz.prog) (n := 15) (k := 10) (l := []) (ol := []) trivial Tryz.func334 rfl (by kernel_rfl) Tryz.call334 trivial (ts := ZpD) (rs := ZiO) (t := fun a => Zmx a) (fun a => by kernel_rfl)
abbrev ZEr : List Sh := [Sh.one R.bool, Sh.one R.bool, Sh.one R.bool]
abbrev ZEs : Rs := Rs.one (Sh.one R.bool)
def ZHZ (a : Bool) (b : Bool) (c : Bool) : RT (Bool) :=
 .leaf (bif a then b || bif a then c || b && c else b && c else bif a then c || b && c else b && c)
def pMaj (a : Bool) (b : Bool) (c : Bool) : Bool := (ZHZ a b c).val
def Zwa : Entry := Zm ZEr ZEs (fun _ => none) (fun a => pMaj a.1 a.2.1 a.2.2)
theorem Zjr : Zc Tryz.prog 315 Zwa :=
 pureQ 127 [] [] ZEr ZEs trivial Tryz.func315 Tryz.call315 trivial (t := fun a => ZHZ a.1 a.2.1 a.2.2) (fun a => by kernel_rfl)
abbrev ZEo : List Sh := [Sh.one R.bool]
abbrev ZEp : Rs := Rs.one (Sh.one (R.int i64))
def ZHX (b : Bool) : RT (Int) :=
 .br (b) (.leaf (1)) (.leaf (0))
def pOne (b : Bool) : Int := (ZHX b).val
def ZFY : Entry := Zm ZEo ZEp (fun _ => none) (fun a => pOne a)
theorem Zzs : Zc Tryz.prog 332 ZFY :=
 pureQ 7 [] [] ZEo ZEp trivial Tryz.func332 Tryz.call332 trivial (t := fun a => ZHX a) (fun a => by kernel_rfl)
abbrev Zpy : List Sh := [Sh.one (R.int i64)]
abbrev Zpz : Rs := Rs.one (Sh.one R.bool)
def ZhM (n : Int) : RT (Bool) :=
 .leaf (decide (n < -128) || decide (n > 127))
def ZiG (n : Int) : Bool := (ZhM n).val
def Zmr : Entry := Zm Zpy Zpz (fun _ => none) (fun a => ZiG a)
theorem Zk5 : Zc Tryz.prog 333 Zmr :=
 pureQ 7 [] [] Zpy Zpz trivial Tryz.func333 Tryz.call333 trivial (t := fun a => ZhM a) (fun a => by kernel_rfl)
abbrev ZEk : List Sh := [Sh.one (R.int u8), Sh.one (R.int u8), Sh.one R.bool]
abbrev ZEl : Rs := Rs.tup [Sh.one (R.int u8), Sh.one R.bool, Sh.one R.bool, Sh.one R.bool]
def ZFL (a : Int) (b : Int) (c : Bool) : RT (QT17) :=
 let x1 := i64.wrap (i64.wrap (i64.wrap a + i64.wrap b) + pOne c)
 .leaf ((u8.wrap x1, decide (x1 > 255), decide (i64.wrap (i64.wrap (i64.wrap (andI u8 a 15) + i64.wrap (andI u8 b 15)) + pOne c) > 15), ZiG (i64.wrap (i64.wrap (i64.wrap (IntKind.i8.wrap a) + i64.wrap (IntKind.i8.wrap b)) + pOne c))))
def pSum (a : Int) (b : Int) (c : Bool) : QT17 := (ZFL a b c).val
def ZCD : Entry := Zm ZEk ZEl (fun _ => none) (fun a => pSum a.1 a.2.1 a.2.2)
theorem Zri : Zc Tryz.prog 312 ZCD :=
 pureQ 4095 [(332, ZFY), (333, Zmr)] [] ZEk ZEl ⟨Zzs, Zk5, trivial⟩ Tryz.func312 Tryz.call312 trivial (t := fun a => ZFL a.1 a.2.1 a.2.2) (fun a => by kernel_rfl)
abbrev Zz5 : List Sh := [Sh.one (R.int u8), Sh.one (R.int u8), Sh.one R.bool]
abbrev Zz7 : Rs := Rs.tup [Sh.one (R.int u8), Sh.one R.bool, Sh.one R.bool, Sh.one R.bool]
def Zz6 (a : Int) (b : Int) (c : Bool) : RT (QT17) :=
 let x1 := i64.wrap (i64.wrap (i64.wrap a - i64.wrap b) - pOne c)
 .leaf ((u8.wrap x1, decide (x1 < 0), decide (i64.wrap (i64.wrap (i64.wrap (i64.wrap (i64.wrap (andI u8 a 15) + 15) - i64.wrap (andI u8 b 15)) + 1) - pOne c) > 15), ZiG (i64.wrap (i64.wrap (i64.wrap (IntKind.i8.wrap a) - i64.wrap (IntKind.i8.wrap b)) - pOne c))))
def Zfe (a : Int) (b : Int) (c : Bool) : QT17 := (Zz6 a b c).val
def ZuF : Entry := Zm Zz5 Zz7 (fun _ => none) (fun a => Zfe a.1 a.2.1 a.2.2)
theorem Znr : Zc Tryz.prog 313 ZuF :=
 pureQ 4095 [(332, ZFY), (333, Zmr)] [] Zz5 Zz7 ⟨Zzs, Zk5, trivial⟩ Tryz.func313 Tryz.call313 trivial (t := fun a => Zz6 a.1 a.2.1 a.2.2) (fun a => by kernel_rfl)
abbrev Zsa : List Sh := [Sh.one (R.int u8), Sh.one (R.int u8)]
abbrev Zsb : Rs := Rs.one (Sh.one (R.int u16))
def ZEv (h : Int) (l : Int) : RT (Int) :=
 .leaf (orI u16 (shlI u16 (u16.wrap h) 8) (u16.wrap l))
def ZzG (h : Int) (l : Int) : Int := (ZEv h l).val
def Zuu : Entry := Zm Zsa Zsb (fun _ => none) (fun a => ZzG a.1 a.2)
theorem ZhQ : Zc Tryz.prog 236 Zuu :=
 pureQ 31 [] [] Zsa Zsb trivial Tryz.func236 Tryz.call236 trivial (t := fun a => ZEv a.1 a.2) (fun a => by kernel_rfl)
abbrev ZEx : List Sh := [Sh.one R.bool, Sh.one (R.int i64)]
abbrev ZAi : Rs := Rs.one (Sh.one (R.int u8))
def ZC6 (b : Bool) (n : Int) : RT (Option (Int)) :=
 .br (!b || decide (0 ≤ n)) (.br (b) (.leaf (some (shlI u8 1 n))) (.leaf (some (0)))) (.leaf none)
def pBit (b : Bool) (n : Int) : Int := getO ZAi.dflt (ZC6 b n).val
def Zc4 (b : Bool) (n : Int) : Bool := okB (ZC6 b n).val
def ZH4 : Entry := Zm ZEx ZAi (fun a => some (Zc4 a.1 a.2)) (fun a => pBit a.1 a.2)
theorem ZGk : Zc Tryz.prog 335 ZH4 :=
 pureP 31 [] [] ZEx ZAi trivial Tryz.func335 Tryz.call335 trivial (t := fun a => ZC6 a.1 a.2) (fun a => by kernel_rfl)
abbrev Zzp : List Sh := [Sh.one (R.int i64), Sh.agg rcF7]
abbrev Zrt : Rs := Rs.one (Sh.one (R.int u8))
def ZpE (chip : Int) (f : TF) : RT (Option (Int)) :=
 let x1 := orI u8 (orI u8 (orI u8 (orI u8 (pBit f.1 7) (pBit f.2.1 6)) (pBit f.2.2.2.1 4)) (pBit f.2.2.2.2.1 2)) (pBit f.2.2.2.2.2.2 0)
 .br (!Zc4 f.1 7 || (!Zc4 f.2.1 6 || (!Zc4 f.2.2.2.1 4 || (!Zc4 f.2.2.2.2.1 2 || Zc4 f.2.2.2.2.2.2 0)))) (.br (!Zc4 f.1 7 || (!Zc4 f.2.1 6 || (!Zc4 f.2.2.2.1 4 || Zc4 f.2.2.2.2.1 2))) (.br (!Zc4 f.1 7 || (!Zc4 f.2.1 6 || Zc4 f.2.2.2.1 4)) (.br (!Zc4 f.1 7 || Zc4 f.2.1 6) (.br (Zc4 f.1 7) (.br (!chip == 2 || (!Zc4 f.2.2.1 5 || Zc4 f.2.2.2.2.2.1 1)) (.br (!chip == 2 || Zc4 f.2.2.1 5) (.br (chip == 2) (.leaf (some (orI u8 (orI u8 x1 (pBit f.2.2.1 5)) (pBit f.2.2.2.2.2.1 1)))) (.leaf (some (orI u8 x1 2)))) (.leaf none)) (.leaf none)) (.leaf none)) (.leaf none)) (.leaf none)) (.leaf none)) (.leaf none)
def ZCO (chip : Int) (f : TF) : Int := getO Zrt.dflt (ZpE chip f).val
def Zum (chip : Int) (f : TF) : Bool := okB (ZpE chip f).val
def ZEn : Entry := Zm Zzp Zrt (fun a => some (Zum a.1 a.2)) (fun a => ZCO a.1 a.2)
theorem ZCN : Zc Tryz.prog 324 ZEn :=
 pureP 63 [(335, ZH4)] [] Zzp Zrt ⟨ZGk, trivial⟩ Tryz.func324 Tryz.call324 trivial (t := fun a => ZpE a.1 a.2) (fun a => by kernel_rfl)
abbrev Zpw : List Sh := [Sh.one (R.int i64), Sh.one (R.int u8)]
abbrev Zpx : Rs := Rs.one (Sh.agg rcF7)
def Zmp (chip : Int) (b : Int) : RT TF :=
 .leaf ((andI u8 b 128 != 0, andI u8 b 64 != 0, chip == 2 && andI u8 b 32 != 0, andI u8 b 16 != 0, andI u8 b 4 != 0, chip == 2 && andI u8 b 2 != 0, andI u8 b 1 != 0))
def Zmq (chip : Int) (b : Int) : TF := (Zmp chip b).val
def Zug : Entry := Zm Zpw Zpx (fun _ => none) (fun a => Zmq a.1 a.2)
theorem ZvX : Zc Tryz.prog 323 Zug :=
 pureQ 63 [] [] Zpw Zpx trivial Tryz.func323 Tryz.call323 trivial (t := fun a => Zmp a.1 a.2) (fun a => by kernel_rfl)
abbrev ZHY : List Sh := [Sh.one (R.int u8)]
abbrev ZF0 : Rs := Rs.one (Sh.agg rcF7)
def pOfT (r : Int) : RT (Option TF) :=
 .br (ZhP r) (.leaf (some ((decide (r ≥ 128), r == 0, false, false, Zmy r, false, false)))) (.leaf none)
def pOf (r : Int) : TF := getO ZF0.dflt (pOfT r).val
def pOfC (r : Int) : Bool := okB (pOfT r).val
def pOfE : Entry := Zm ZHY ZF0 (fun a => some (pOfC a)) (fun a => pOf a)
theorem ZpF : Zc Tryz.prog 314 pOfE :=
 pureP 7 [(334, Zul)] [] ZHY ZF0 ⟨Zv0, trivial⟩ Tryz.func314 Tryz.call314 trivial (t := fun a => pOfT a) (fun a => by kernel_rfl)
def Zj2 : Entry := .tree (ZQ (envX Tryz.prog [] [] 141872468127 8) Tryz.f310)
theorem Zj1 : Zc Tryz.prog 310 Zj2 := ZaF (P := Tryz.prog) (n := 141872468127) (k := 8) (l := []) (ol := []) trivial Tryz.func310 rfl (by kernel_rfl) Tryz.call310 trivial
abbrev ZzO : List Sh := [Sh.agg Zio, Sh.one (R.int i64)]
abbrev ZzP : Rs := Rs.one (Sh.one (R.int u8))
def ZF6 (r : TR) (n : Int) : RT (Int) :=
 .br (andI i64 n 7 == 0) (.leaf r.2.1) (.br (andI i64 n 7 == 1) (.leaf r.2.2.1) (.br (andI i64 n 7 == 2) (.leaf r.2.2.2.1) (.br (andI i64 n 7 == 3) (.leaf r.2.2.2.2.1) (.br (andI i64 n 7 == 4) (.leaf r.2.2.2.2.2.1) (.br (andI i64 n 7 == 5) (.leaf r.2.2.2.2.2.2.1) (.br (andI i64 n 7 == 7) (.leaf r.1) (.leaf (0))))))))
def pGet (r : TR) (n : Int) : Int := (ZF6 r n).val
def ZH1 : Entry := Zm ZzO ZzP (fun _ => none) (fun a => pGet a.1 a.2)
theorem ZzN : Zc Tryz.prog 287 ZH1 :=
 pureQ 63 [(310, Zj2)] [] ZzO ZzP ⟨Zj1, trivial⟩ Tryz.func287 Tryz.call287 trivial (t := fun a => ZF6 a.1 a.2) (fun a => by kernel_rfl)
abbrev Zza : List Sh := [Sh.agg Zio, Sh.one (R.int i64), Sh.one (R.int u8)]
abbrev Zzb : Rs := Rs.one (Sh.agg Zio)
def ZFO (r : TR) (n : Int) (v : Int) : RT TR :=
 .br (andI i64 n 7 == 0) (.leaf ((r.1, v, r.2.2))) (.br (andI i64 n 7 == 1) (.leaf ((r.1, r.2.1, v, r.2.2.2))) (.br (andI i64 n 7 == 2) (.leaf ((r.1, r.2.1, r.2.2.1, v, r.2.2.2.2))) (.br (andI i64 n 7 == 3) (.leaf ((r.1, r.2.1, r.2.2.1, r.2.2.2.1, v, r.2.2.2.2.2))) (.br (andI i64 n 7 == 4) (.leaf ((r.1, r.2.1, r.2.2.1, r.2.2.2.1, r.2.2.2.2.1, v, r.2.2.2.2.2.2))) (.br (andI i64 n 7 == 5) (.leaf ((r.1, r.2.1, r.2.2.1, r.2.2.2.1, r.2.2.2.2.1, r.2.2.2.2.2.1, v, r.2.2.2.2.2.2.2))) (.br (andI i64 n 7 == 7) (.leaf ((v, r.2))) (.leaf (r))))))))
def pSet (r : TR) (n : Int) (v : Int) : TR := (ZFO r n v).val
def ZHU : Entry := Zm Zza Zzb (fun _ => none) (fun a => pSet a.1 a.2.1 a.2.2)
theorem Zy9 : Zc Tryz.prog 268 ZHU :=
 pureQ 255 [(310, Zj2)] [] Zza Zzb ⟨Zj1, trivial⟩ Tryz.func268 Tryz.call268 trivial (t := fun a => ZFO a.1 a.2.1 a.2.2) (fun a => by kernel_rfl)
abbrev Zrr : List Sh := [Sh.agg Zio, Sh.one (R.int i64)]
abbrev Zrs : Rs := Rs.one (Sh.one (R.int u16))
def Zzm (r : TR) (n : Int) : RT (Int) :=
 .br (andI i64 n 3 == 3) (.leaf r.2.2.2.2.2.2.2.2.1) (.leaf (ZzG (pGet r (i64.wrap (2 * andI i64 n 3))) (pGet r (i64.wrap (i64.wrap (2 * andI i64 n 3) + 1)))))
def ZFV (r : TR) (n : Int) : Int := (Zzm r n).val
def ZHW : Entry := Zm Zrr Zrs (fun _ => none) (fun a => ZFV a.1 a.2)
theorem ZCM : Zc Tryz.prog 286 ZHW :=
 pureQ 31 [(236, Zuu), (287, ZH1)] [] Zrr Zrs ⟨ZhQ, ZzN, trivial⟩ Tryz.func286 Tryz.call286 trivial (t := fun a => Zzm a.1 a.2) (fun a => by kernel_rfl)
abbrev ZgC : List Sh := [Sh.agg Zio, Sh.one (R.int i64), Sh.one (R.int u16)]
abbrev ZgD : Rs := Rs.one (Sh.agg Zio)
def ZiH (r : TR) (n : Int) (v : Int) : RT TR :=
 .br (andI i64 n 3 == 3) (.leaf ((r.1, r.2.1, r.2.2.1, r.2.2.2.1, r.2.2.2.2.1, r.2.2.2.2.2.1, r.2.2.2.2.2.2.1, r.2.2.2.2.2.2.2.1, v, r.2.2.2.2.2.2.2.2.2))) (.leaf (pSet (pSet r (i64.wrap (2 * andI i64 n 3)) (u8.wrap (shrI u16 v 8))) (i64.wrap (i64.wrap (2 * andI i64 n 3) + 1)) (u8.wrap v)))
def Zms (r : TR) (n : Int) (v : Int) : TR := (ZiH r n v).val
def Zzc : Entry := Zm ZgC ZgD (fun _ => none) (fun a => Zms a.1 a.2.1 a.2.2)
theorem Zrj : Zc Tryz.prog 269 Zzc :=
 pureQ 127 [(268, ZHU)] [] ZgC ZgD ⟨Zy9, trivial⟩ Tryz.func269 Tryz.call269 trivial (t := fun a => ZiH a.1 a.2.1 a.2.2) (fun a => by kernel_rfl)
abbrev Zzq : List Sh := [Sh.one (R.int i64), Sh.agg Zio]
abbrev Zun : Rs := Rs.one (Sh.one (R.int u16))
def ZCP (chip : Int) (r : TR) : RT (Option (Int)) :=
 .br (Zum chip r.2.2.2.2.2.2.2.1) (.leaf (some (ZzG r.1 (ZCO chip r.2.2.2.2.2.2.2.1)))) (.leaf none)
def pPSW (chip : Int) (r : TR) : Int := getO Zun.dflt (ZCP chip r).val
def ZFX (chip : Int) (r : TR) : Bool := okB (ZCP chip r).val
def pPSWE : Entry := Zm Zzq Zun (fun a => some (ZFX a.1 a.2)) (fun a => pPSW a.1 a.2)
theorem ZFW : Zc Tryz.prog 290 pPSWE :=
 pureP 31 [(236, Zuu), (324, ZEn)] [] Zzq Zun ⟨ZhQ, ZCN, trivial⟩ Tryz.func290 Tryz.call290 trivial (t := fun a => ZCP a.1 a.2) (fun a => by kernel_rfl)
abbrev ZiI : List Sh := [Sh.one (R.int i64), Sh.agg Zio, Sh.one (R.int u16)]
abbrev ZiJ : Rs := Rs.one (Sh.agg Zio)
def Zmt (chip : Int) (r : TR) (v : Int) : RT TR :=
 .leaf ((u8.wrap (shrI u16 v 8), r.2.1, r.2.2.1, r.2.2.2.1, r.2.2.2.2.1, r.2.2.2.2.2.1, r.2.2.2.2.2.2.1, Zmq chip (u8.wrap v), r.2.2.2.2.2.2.2.2))
def Zrl (chip : Int) (r : TR) (v : Int) : TR := (Zmt chip r v).val
def ZCF : Entry := Zm ZiI ZiJ (fun _ => none) (fun a => Zrl a.1 a.2.1 a.2.2)
theorem ZvY : Zc Tryz.prog 281 ZCF :=
 pureQ 127 [(323, Zug)] [] ZiI ZiJ ⟨ZvX, trivial⟩ Tryz.func281 Tryz.call281 trivial (t := fun a => Zmt a.1 a.2.1 a.2.2) (fun a => by kernel_rfl)
abbrev Zuq : List Sh := [Sh.one (R.int i64), Sh.one (R.int i64), Sh.one (R.int u8), Sh.one (R.int u8)]
abbrev ZmJ : Rs := Rs.tup [Sh.one (R.int u8), Sh.agg rcF7]
def Zjs (chip : Int) (op : Int) (a : Int) (b : Int) : RT (Option (QT2)) :=
 let x1 : Int := bif op == 4 then andI u8 a b else bif op == 5 then xorI u8 a b else bif op == 6 then orI u8 a b else 0
 let x2 := pOf x1
 let x3 := x2.2
 let x4 := x3.2
 .br (pOfC x1) (.leaf (some ((x1, x2.1, x3.1, bif chip == 2 then pMaj (decide (a ≥ 128)) (decide (b ≥ 128)) (decide (x1 ≥ 128)) else x4.1, op == 4 && (chip == 2 || andI u8 (orI u8 a b) 8 != 0), x4.2.2)))) (.leaf none)
def Zur (chip : Int) (op : Int) (a : Int) (b : Int) : QT2 := getO ZmJ.dflt (Zjs chip op a b).val
def ZmK (chip : Int) (op : Int) (a : Int) (b : Int) : Bool := okB (Zjs chip op a b).val
def ZzB : Entry := Zm Zuq ZmJ (fun a => some (ZmK a.1 a.2.1 a.2.2.1 a.2.2.2)) (fun a => Zur a.1 a.2.1 a.2.2.1 a.2.2.2)
theorem ZzA : Zc Tryz.prog 311 ZzB :=
 pureP 8858394623 [(314, pOfE), (315, Zwa)] [] Zuq ZmJ ⟨ZpF, Zjr, trivial⟩ Tryz.func311 Tryz.call311 trivial (t := fun a => Zjs a.1 a.2.1 a.2.2.1 a.2.2.2) (fun a => by kernel_rfl)
abbrev ZF9 : List Sh := [Sh.one (R.int i64), Sh.one (R.int i64), Sh.one (R.int u8), Sh.one (R.int u8), Sh.agg rcF7]
abbrev ZCZ : Rs := Rs.tup [Sh.one (R.int u8), Sh.agg rcF7]
def pDoT (chip : Int) (op : Int) (a : Int) (b : Int) (f : TF) : RT (Option (QT2)) :=
 let x1 := decide (andI i64 op 7 ≥ 4) && decide (andI i64 op 7 ≤ 6)
 let x2 := f.2.2.2.2.2.2 && (andI i64 op 7 == 1 || andI i64 op 7 == 3)
 let x3 := Zfe a b x2
 let x4 := x3.1
 let x5 := pOf x4
 let x6 := x5.2
 let x7 := x6.2
 let x8 := x3.2
 let x9 := x8.2
 let x10 := x7.2.2
 let x11 : TF := (x5.1, x6.1, bif chip == 2 then pMaj (decide (a ≥ 128)) (decide (b < 128)) (decide (x4 ≥ 128)) else x7.1, x9.1, x10.1, bif chip == 2 then x9.2 else x10.2.1, x8.1)
 let x12 := pSum a b x2
 let x13 := x12.1
 let x14 := pOf x13
 let x15 := x14.2
 let x16 := x15.2
 let x17 := x12.2
 let x18 := x17.2
 let x19 := x16.2.2
 let x20 : TF := (x14.1, x15.1, bif chip == 2 then pMaj (decide (a ≥ 128)) (decide (b ≥ 128)) (decide (x13 ≥ 128)) else x16.1, x18.1, x19.1, bif chip == 2 then x18.2 else x19.2.1, x17.1)
 .br (!x1 || ZmK chip (andI i64 op 7) a b) (.br (x1) (.leaf (some (Zur chip (andI i64 op 7) a b))) (.br (andI i64 op 7 != 0 && andI i64 op 7 != 1) (.br (pOfC x4) (.br (andI i64 op 7 == 7) (.leaf (some ((a, x11)))) (.leaf (some ((x4, x11))))) (.leaf none)) (.br (pOfC x13) (.br (andI i64 op 7 == 7) (.leaf (some ((a, x20)))) (.leaf (some ((x13, x20))))) (.leaf none)))) (.leaf none)
def pDo (chip : Int) (op : Int) (a : Int) (b : Int) (f : TF) : QT2 := getO ZCZ.dflt (pDoT chip op a b f).val
def pDoC (chip : Int) (op : Int) (a : Int) (b : Int) (f : TF) : Bool := okB (pDoT chip op a b f).val
def pDoE : Entry := Zm ZF9 ZCZ (fun a => some (pDoC a.1 a.2.1 a.2.2.1 a.2.2.2.1 a.2.2.2.2)) (fun a => pDo a.1 a.2.1 a.2.2.1 a.2.2.2.1 a.2.2.2.2)
theorem ZH3 : Zc Tryz.prog 271 pDoE :=
 pureP 1048575 [(311, ZzB), (312, ZCD), (313, ZuF), (314, pOfE), (315, Zwa)] [] ZF9 ZCZ ⟨ZzA, Zri, Znr, ZpF, Zjr, trivial⟩ Tryz.func271 Tryz.call271 trivial (t := fun a => pDoT a.1 a.2.1 a.2.2.1 a.2.2.2.1 a.2.2.2.2) (fun a => by kernel_rfl)
abbrev ZpC : List Sh := [Sh.one (R.int i64), Sh.one (R.int u8), Sh.one (R.int u8), Sh.one R.bool, Sh.one R.bool, Sh.one R.bool, Sh.agg rcF7]
abbrev ZiL : Rs := Rs.one (Sh.agg rcF7)
def ZhN (chip : Int) (v : Int) (r : Int) (half : Bool) (over : Bool) (x : Bool) (f : TF) : RT (Option TF) :=
 .br (pOfC r) (.leaf (some (((pOf r).1, (pOf r).2.1, bif chip == 2 then pMaj (decide (v ≥ 128)) x (decide (r ≥ 128)) else (pOf r).2.2.1, half, (pOf r).2.2.2.2.1, bif chip == 2 then over else (pOf r).2.2.2.2.2.1, f.2.2.2.2.2.2)))) (.leaf none)
def ZiM (chip : Int) (v : Int) (r : Int) (half : Bool) (over : Bool) (x : Bool) (f : TF) : TF := getO ZiL.dflt (ZhN chip v r half over x f).val
def ZfR (chip : Int) (v : Int) (r : Int) (half : Bool) (over : Bool) (x : Bool) (f : TF) : Bool := okB (ZhN chip v r half over x f).val
def Zmu : Entry := Zm ZpC ZiL (fun a => some (ZfR a.1 a.2.1 a.2.2.1 a.2.2.2.1 a.2.2.2.2.1 a.2.2.2.2.2.1 a.2.2.2.2.2.2)) (fun a => ZiM a.1 a.2.1 a.2.2.1 a.2.2.2.1 a.2.2.2.2.1 a.2.2.2.2.2.1 a.2.2.2.2.2.2)
theorem Zk6 : Zc Tryz.prog 316 Zmu :=
 pureP 65535 [(314, pOfE), (315, Zwa)] [] ZpC ZiL ⟨ZpF, Zjr, trivial⟩ Tryz.func316 Tryz.call316 trivial (t := fun a => ZhN a.1 a.2.1 a.2.2.1 a.2.2.2.1 a.2.2.2.2.1 a.2.2.2.2.2.1 a.2.2.2.2.2.2) (fun a => by kernel_rfl)
abbrev ZzK : List Sh := [Sh.one (R.int i64), Sh.one (R.int u8), Sh.agg rcF7]
abbrev Zuv : Rs := Rs.tup [Sh.one (R.int u8), Sh.agg rcF7]
def ZCU (chip : Int) (v : Int) (f : TF) : RT (Option (QT2)) :=
 .br (ZfR chip v (pSum v 1 false).1 (pSum v 1 false).2.2.1 (pSum v 1 false).2.2.2 false f) (.leaf (some (((pSum v 1 false).1, ZiM chip v (pSum v 1 false).1 (pSum v 1 false).2.2.1 (pSum v 1 false).2.2.2 false f)))) (.leaf none)
def pInr (chip : Int) (v : Int) (f : TF) : QT2 := getO Zuv.dflt (ZCU chip v f).val
def ZF4 (chip : Int) (v : Int) (f : TF) : Bool := okB (ZCU chip v f).val
def pInrE : Entry := Zm ZzK Zuv (fun a => some (ZF4 a.1 a.2.1 a.2.2)) (fun a => pInr a.1 a.2.1 a.2.2)
theorem ZF3 : Zc Tryz.prog 273 pInrE :=
 pureP 4095 [(312, ZCD), (316, Zmu)] [] ZzK Zuv ⟨Zri, Zk6, trivial⟩ Tryz.func273 Tryz.call273 trivial (t := fun a => ZCU a.1 a.2.1 a.2.2) (fun a => by kernel_rfl)
abbrev ZAc : List Sh := [Sh.one (R.int i64), Sh.one (R.int u8), Sh.agg rcF7]
abbrev ZuH : Rs := Rs.tup [Sh.one (R.int u8), Sh.agg rcF7]
def ZC2 (chip : Int) (v : Int) (f : TF) : RT (Option (QT2)) :=
 .br (ZfR chip v (Zfe v 1 false).1 (Zfe v 1 false).2.2.1 (Zfe v 1 false).2.2.2 true f) (.leaf (some (((Zfe v 1 false).1, ZiM chip v (Zfe v 1 false).1 (Zfe v 1 false).2.2.1 (Zfe v 1 false).2.2.2 true f)))) (.leaf none)
def pDcr (chip : Int) (v : Int) (f : TF) : QT2 := getO ZuH.dflt (ZC2 chip v f).val
def ZGf (chip : Int) (v : Int) (f : TF) : Bool := okB (ZC2 chip v f).val
def pDcrE : Entry := Zm ZAc ZuH (fun a => some (ZGf a.1 a.2.1 a.2.2)) (fun a => pDcr a.1 a.2.1 a.2.2)
theorem ZGe : Zc Tryz.prog 274 pDcrE :=
 pureP 4095 [(313, ZuF), (316, Zmu)] [] ZAc ZuH ⟨Znr, Zk6, trivial⟩ Tryz.func274 Tryz.call274 trivial (t := fun a => ZC2 a.1 a.2.1 a.2.2) (fun a => by kernel_rfl)
abbrev ZzH : List Sh := [Sh.one (R.int i64), Sh.one (R.int u16), Sh.agg rcF7]
abbrev ZzI : Rs := Rs.tup [Sh.one (R.int u16), Sh.agg rcF7]
def ZF2 (chip : Int) (v : Int) (f : TF) : RT (QT2) :=
 .leaf ((u16.wrap (v + 1), f.1, f.2.1, bif chip == 2 then v == 65535 else f.2.2.1, f.2.2.2))
def pInx (chip : Int) (v : Int) (f : TF) : QT2 := (ZF2 chip v f).val
def pInxE : Entry := Zm ZzH ZzI (fun _ => none) (fun a => pInx a.1 a.2.1 a.2.2)
theorem ZF1 : Zc Tryz.prog 275 pInxE :=
 pureQ 255 [] [] ZzH ZzI trivial Tryz.func275 Tryz.call275 trivial (t := fun a => ZF2 a.1 a.2.1 a.2.2) (fun a => by kernel_rfl)
abbrev Zz9 : List Sh := [Sh.one (R.int i64), Sh.one (R.int u16), Sh.agg rcF7]
abbrev ZAa : Rs := Rs.tup [Sh.one (R.int u16), Sh.agg rcF7]
def ZGd (chip : Int) (v : Int) (f : TF) : RT (QT2) :=
 .leaf ((u16.wrap (v - 1), f.1, f.2.1, bif chip == 2 then v == 0 else f.2.2.1, f.2.2.2))
def pDcx (chip : Int) (v : Int) (f : TF) : QT2 := (ZGd chip v f).val
def pDcxE : Entry := Zm Zz9 ZAa (fun _ => none) (fun a => pDcx a.1 a.2.1 a.2.2)
theorem ZGc : Zc Tryz.prog 276 pDcxE :=
 pureQ 255 [] [] Zz9 ZAa trivial Tryz.func276 Tryz.call276 trivial (t := fun a => ZGd a.1 a.2.1 a.2.2) (fun a => by kernel_rfl)
abbrev ZAd : List Sh := [Sh.one (R.int i64), Sh.one (R.int u16), Sh.one (R.int u16), Sh.agg rcF7]
abbrev ZAe : Rs := Rs.tup [Sh.one (R.int u16), Sh.agg rcF7]
def ZGh (chip : Int) (a : Int) (b : Int) (f : TF) : RT (QT2) :=
 .leaf ((u16.wrap (a + b), f.1, f.2.1, f.2.2.1, f.2.2.2.1, f.2.2.2.2.1, bif chip == 2 then andI u16 (andI u16 (xorI u16 a (u16.wrap (a + b))) (xorI u16 b (u16.wrap (a + b)))) 32768 != 0 else f.2.2.2.2.2.1, decide (u16.wrap (a + b) < a)))
def pDad (chip : Int) (a : Int) (b : Int) (f : TF) : QT2 := (ZGh chip a b f).val
def pDadE : Entry := Zm ZAd ZAe (fun _ => none) (fun a => pDad a.1 a.2.1 a.2.2.1 a.2.2.2)
theorem ZGg : Zc Tryz.prog 277 pDadE :=
 pureQ 2047 [] [] ZAd ZAe trivial Tryz.func277 Tryz.call277 trivial (t := fun a => ZGh a.1 a.2.1 a.2.2.1 a.2.2.2) (fun a => by kernel_rfl)
abbrev Zsp : List Sh := [Sh.one (R.int u16), Sh.one (R.int u16)]
abbrev Znq : Rs := Rs.tup [Sh.one (R.int u16), Sh.agg rcF7]
def ZuE (a : Int) (b : Int) : RT (Option (QT2)) :=
 let x1 := Zfe (u8.wrap (shrI u16 a 8)) (u8.wrap (shrI u16 b 8)) (Zfe (u8.wrap a) (u8.wrap b) false).2.1
 let x2 := x1.1
 let x3 := pOf x2
 let x4 := x1.2
 let x5 := x4.2
 .br (pOfC x2) (.leaf (some ((ZzG x2 (Zfe (u8.wrap a) (u8.wrap b) false).1, x3.1, x2 == 0 && (Zfe (u8.wrap a) (u8.wrap b) false).1 == 0, pMaj (decide (a ≥ 32768)) (decide (b < 32768)) (decide (x2 ≥ 128)), x5.1, x3.2.2.2.2.1, x5.2, x4.1)))) (.leaf none)
def ZF8 (a : Int) (b : Int) : QT2 := getO Znq.dflt (ZuE a b).val
def Zz3 (a : Int) (b : Int) : Bool := okB (ZuE a b).val
def ZH2 : Entry := Zm Zsp Znq (fun a => some (Zz3 a.1 a.2)) (fun a => ZF8 a.1 a.2)
theorem ZCY : Zc Tryz.prog 283 ZH2 :=
 pureP 32767 [(236, Zuu), (313, ZuF), (314, pOfE), (315, Zwa)] [] Zsp Znq ⟨ZhQ, Znr, ZpF, Zjr, trivial⟩ Tryz.func283 Tryz.call283 trivial (t := fun a => ZuE a.1 a.2) (fun a => by kernel_rfl)
abbrev ZAg : List Sh := [Sh.one (R.int i64), Sh.one (R.int u8), Sh.agg rcF7]
abbrev ZuK : Rs := Rs.tup [Sh.one (R.int u8), Sh.agg rcF7]
def ZC4 (chip : Int) (a : Int) (f : TF) : RT (Option (QT2)) :=
 let x1 : Int := bif f.2.2.2.1 || decide (andI u8 a 15 > 9) then 6 else 0
 let x2 := pSum a (bif f.2.2.2.2.2.2 || decide (a > 153) then u8.wrap (x1 + 96) else x1) false
 let x3 := x2.1
 let x4 := pOf x3
 let x5 := x4.2
 let x6 := x5.2
 let x7 := x2.2.2
 let x8 := x6.2.2
 .br (pOfC x3) (.leaf (some ((x3, x4.1, x5.1, bif chip == 2 then pMaj (decide (a ≥ 128)) false (decide (x3 ≥ 128)) else x6.1, x7.1, x8.1, bif chip == 2 then x7.2 else x8.2.1, f.2.2.2.2.2.2 || decide (a > 153))))) (.leaf none)
def pDaa (chip : Int) (a : Int) (f : TF) : QT2 := getO ZuK.dflt (ZC4 chip a f).val
def ZGj (chip : Int) (a : Int) (f : TF) : Bool := okB (ZC4 chip a f).val
def pDaaE : Entry := Zm ZAg ZuK (fun a => some (ZGj a.1 a.2.1 a.2.2)) (fun a => pDaa a.1 a.2.1 a.2.2)
theorem ZGi : Zc Tryz.prog 278 pDaaE :=
 pureP 32767 [(312, ZCD), (314, pOfE), (315, Zwa)] [] ZAg ZuK ⟨Zri, ZpF, Zjr, trivial⟩ Tryz.func278 Tryz.call278 trivial (t := fun a => ZC4 a.1 a.2.1 a.2.2) (fun a => by kernel_rfl)
abbrev ZEt : List Sh := [Sh.one R.bool]
abbrev ZEu : Rs := Rs.one (Sh.one (R.int u8))
def ZH0 (c : Bool) : RT (Int) :=
 .br (c) (.leaf (1)) (.leaf (0))
def pLow (c : Bool) : Int := (ZH0 c).val
def Zwb : Entry := Zm ZEt ZEu (fun _ => none) (fun a => pLow a)
theorem Zr9 : Zc Tryz.prog 320 Zwb :=
 pureQ 7 [] [] ZEt ZEu trivial Tryz.func320 Tryz.call320 trivial (t := fun a => ZH0 a) (fun a => by kernel_rfl)
def Zen : Entry := .tree (ZQ (envX Tryz.prog [] [] 7 8) Tryz.f317)
theorem ZgO : Zc Tryz.prog 317 Zen := ZaF (P := Tryz.prog) (n := 7) (k := 8) (l := []) (ol := []) trivial Tryz.func317 rfl (by kernel_rfl) Tryz.call317 trivial
def Zem : Entry := .tree (ZQ (envX Tryz.prog [] [] 7 8) Tryz.f318)
theorem ZgN : Zc Tryz.prog 318 Zem := ZaF (P := Tryz.prog) (n := 7) (k := 8) (l := []) (ol := []) trivial Tryz.func318 rfl (by kernel_rfl) Tryz.call318 trivial
def Zel : Entry := .tree (ZQ (envX Tryz.prog [(320, Zwb)] [] 15 8) Tryz.f319)
theorem ZgM : Zc Tryz.prog 319 Zel := ZaF (P := Tryz.prog) (n := 15) (k := 8) (l := [(320, Zwb)]) (ol := []) ⟨Zr9, trivial⟩ Tryz.func319 rfl (by kernel_rfl) Tryz.call319 trivial
def Zek : Entry := .tree (ZQ (envX Tryz.prog [(320, Zwb)] [] 15 8) Tryz.f321)
theorem ZgL : Zc Tryz.prog 321 Zek := ZaF (P := Tryz.prog) (n := 15) (k := 8) (l := [(320, Zwb)]) (ol := []) ⟨Zr9, trivial⟩ Tryz.func321 rfl (by kernel_rfl) Tryz.call321 trivial
abbrev Zze : List Sh := [Sh.one (R.int i64), Sh.one (R.int u8), Sh.one R.bool]
abbrev Zuj : Rs := Rs.tup [Sh.one (R.int u8), Sh.one R.bool]
def ZCH (op : Int) (a : Int) (c : Bool) : RT (Option (Int × Bool)) :=
 .br (andI i64 op 3 == 0 || (andI i64 op 3 == ↑(0 + 1) || (andI i64 op 3 == ↑(0 + 1 + 1) || andI i64 op 3 == ↑(0 + 1 + 1 + 1)))) (.leaf (some ((bif andI i64 op 3 == 0 then orI u8 (shlI u8 a 1) (shrI u8 a 7) else bif andI i64 op 3 == ↑(0 + 1) then orI u8 (shrI u8 a 1) (shlI u8 a 7) else bif andI i64 op 3 == ↑(0 + 1 + 1) then orI u8 (shlI u8 a 1) (pLow c) else orI u8 (shrI u8 a 1) (shlI u8 (pLow c) 7), bif andI i64 op 3 == 0 then decide (a ≥ 128) else bif andI i64 op 3 == ↑(0 + 1) then andI u8 a 1 == 1 else bif andI i64 op 3 == ↑(0 + 1 + 1) then decide (a ≥ 128) else andI u8 a 1 == 1)))) (.leaf none)
def pRot (op : Int) (a : Int) (c : Bool) : Int × Bool := getO Zuj.dflt (ZCH op a c).val
def ZFQ (op : Int) (a : Int) (c : Bool) : Bool := okB (ZCH op a c).val
def pRotE : Entry := Zm Zze Zuj (fun a => some (ZFQ a.1 a.2.1 a.2.2)) (fun a => pRot a.1 a.2.1 a.2.2)
theorem ZFP : Zc Tryz.prog 279 pRotE :=
 pureP 511 [(317, Zen), (318, Zem), (319, Zel), (321, Zek)] [] Zze Zuj ⟨ZgO, ZgN, ZgM, ZgL, trivial⟩ Tryz.func279 Tryz.call279 trivial (t := fun a => ZCH a.1 a.2.1 a.2.2) (fun a => by kernel_rfl)
abbrev Zss : List Sh := [Sh.one (R.int u16)]
abbrev Zst : Rs := Rs.tup [Sh.one (R.int u16), Sh.one R.bool]
def ZEy (v : Int) : RT (Int × Bool) :=
 .leaf ((orI u16 (shrI u16 v 1) (andI u16 v 32768), andI u16 v 1 == 1))
def ZH6 (v : Int) : Int × Bool := (ZEy v).val
def ZH5 : Entry := Zm Zss Zst (fun _ => none) (fun a => ZH6 a)
theorem ZC7 : Zc Tryz.prog 284 ZH5 :=
 pureQ 15 [] [] Zss Zst trivial Tryz.func284 Tryz.call284 trivial (t := fun a => ZEy a) (fun a => by kernel_rfl)
abbrev Zro : List Sh := [Sh.one (R.int u16), Sh.one R.bool]
abbrev Zrp : Rs := Rs.tup [Sh.one (R.int u16), Sh.one R.bool, Sh.one R.bool]
def Zzk (v : Int) (c : Bool) : RT (Int × Bool × Bool) :=
 .leaf ((orI u16 (shlI u16 v 1) (u16.wrap (pLow c)), decide (v ≥ 32768), andI u16 (xorI u16 (orI u16 (shlI u16 v 1) (u16.wrap (pLow c))) v) 32768 != 0))
def ZFU (v : Int) (c : Bool) : Int × Bool × Bool := (Zzk v c).val
def ZHV : Entry := Zm Zro Zrp (fun _ => none) (fun a => ZFU a.1 a.2)
theorem ZCL : Zc Tryz.prog 285 ZHV :=
 pureQ 127 [(320, Zwb)] [] Zro Zrp ⟨Zr9, trivial⟩ Tryz.func285 Tryz.call285 trivial (t := fun a => Zzk a.1 a.2) (fun a => by kernel_rfl)
abbrev Zzd : List Sh := [Sh.one R.bool, Sh.one (R.int i64)]
abbrev Zrm : Rs := Rs.one (Sh.one (R.int u8))
def Zui (b : Bool) (n : Int) : RT (Option (Int)) :=
 .br (!b || decide (0 ≤ n)) (.br (b) (.leaf (some (shlI u8 1 n))) (.leaf (some (0)))) (.leaf none)
def ZpB (b : Bool) (n : Int) : Int := getO Zrm.dflt (Zui b n).val
def ZbJ (b : Bool) (n : Int) : Bool := okB (Zui b n).val
def ZEm : Entry := Zm Zzd Zrm (fun a => some (ZbJ a.1 a.2)) (fun a => ZpB a.1 a.2)
theorem ZCG : Zc Tryz.prog 282 ZEm :=
 pureP 31 [] [] Zzd Zrm trivial Tryz.func282 Tryz.call282 trivial (t := fun a => Zui a.1 a.2) (fun a => by kernel_rfl)
abbrev Zzg : List Sh := [Sh.agg ZbQ, Sh.agg (R.pair R.bool (R.pair R.bool rcF7))]
abbrev Zuk : Rs := Rs.tup [Sh.one (R.int u8), Sh.agg ZbQ]
def ZCJ (c : TC) (l : QT1) : RT (Option (Int × TC)) :=
 let x1 := bif c.2.2.2.2.2.2.2.2.2.2.1 then c.2.2.2.2.2.2.2.2.2.2.2.1 else c.2.2.1
 .br (!ZbJ l.2.2.2.1 7 || (!ZbJ c.2.2.2.2.2.2.2.1 6 || (!ZbJ l.2.2.2.2.2.2.1 5 || (!ZbJ l.2.2.2.2.2.2.2.1 4 || ZbJ x1 3)))) (.br (!ZbJ l.2.2.2.1 7 || (!ZbJ c.2.2.2.2.2.2.2.1 6 || (!ZbJ l.2.2.2.2.2.2.1 5 || ZbJ l.2.2.2.2.2.2.2.1 4))) (.br (!ZbJ l.2.2.2.1 7 || (!ZbJ c.2.2.2.2.2.2.2.1 6 || ZbJ l.2.2.2.2.2.2.1 5)) (.br (!ZbJ l.2.2.2.1 7 || ZbJ c.2.2.2.2.2.2.2.1 6) (.br (ZbJ l.2.2.2.1 7) (.leaf (some ((orI u8 (orI u8 (orI u8 (orI u8 (orI u8 (ZpB l.2.2.2.1 7) (ZpB c.2.2.2.2.2.2.2.1 6)) (ZpB l.2.2.2.2.2.2.1 5)) (ZpB l.2.2.2.2.2.2.2.1 4)) (ZpB x1 3)) (andI u8 c.2.2.2.2.2.1 7), c.1, c.2.1, c.2.2.1, c.2.2.2.1, c.2.2.2.2.1, c.2.2.2.2.2.1, c.2.2.2.2.2.2.1, c.2.2.2.2.2.2.2.1, c.2.2.2.2.2.2.2.2.1, c.2.2.2.2.2.2.2.2.2.1, false, false, c.2.2.2.2.2.2.2.2.2.2.2.2)))) (.leaf none)) (.leaf none)) (.leaf none)) (.leaf none)) (.leaf none)
def pRim (c : TC) (l : QT1) : Int × TC := getO Zuk.dflt (ZCJ c l).val
def ZFS (c : TC) (l : QT1) : Bool := okB (ZCJ c l).val
def pRimE : Entry := Zm Zzg Zuk (fun a => some (ZFS a.1 a.2)) (fun a => pRim a.1 a.2)
theorem ZFR : Zc Tryz.prog 227 pRimE :=
 pureP 255 [(282, ZEm)] [] Zzg Zuk ⟨ZCG, trivial⟩ Tryz.func227 Tryz.call227 trivial (t := fun a => ZCJ a.1 a.2) (fun a => by kernel_rfl)
abbrev Zy6 : List Sh := [Sh.agg ZbQ, Sh.one (R.int u8)]
abbrev Zy7 : Rs := Rs.one (Sh.agg ZbQ)
def ZFN (c : TC) (a : Int) : RT TC :=
 .leaf ((c.1, c.2.1, c.2.2.1, c.2.2.2.1, c.2.2.2.2.1, bif andI u8 a 8 != 0 then andI u8 a 7 else c.2.2.2.2.2.1, c.2.2.2.2.2.2.1, !andI u8 a 16 != 0 && c.2.2.2.2.2.2.2.1, c.2.2.2.2.2.2.2.2.1, c.2.2.2.2.2.2.2.2.2.1, c.2.2.2.2.2.2.2.2.2.2.1, c.2.2.2.2.2.2.2.2.2.2.2.1, bif andI u8 a 64 != 0 then andI u8 a 128 != 0 else c.2.2.2.2.2.2.2.2.2.2.2.2))
def pSim (c : TC) (a : Int) : TC := (ZFN c a).val
def pSimE : Entry := Zm Zy6 Zy7 (fun _ => none) (fun a => pSim a.1 a.2)
theorem ZFM : Zc Tryz.prog 228 pSimE :=
 pureQ 31 [] [] Zy6 Zy7 trivial Tryz.func228 Tryz.call228 trivial (t := fun a => ZFN a.1 a.2) (fun a => by kernel_rfl)
abbrev ZmM : List Sh := [Sh.one (R.int i64), Sh.agg rcF7]
abbrev ZmN : Rs := Rs.one (Sh.one R.bool)
def Zsc (c : Int) (f : TF) : RT (Bool) :=
 .br (bif c == 0 then c == 0 else c == 1) (.leaf (f.2.1 == (c == 1))) (.br (bif c == 2 then c == 2 else c == 3) (.leaf (f.2.2.2.2.2.2 == (c == 3))) (.br (bif c == 4 then c == 4 else c == 5) (.leaf (f.2.2.2.2.1 == (c == 5))) (.br (bif c == 6 then c == 6 else c == 7) (.leaf (f.1 == (c == 7))) (.br (bif c == 8 then c == 8 else c == 9) (.leaf (f.2.2.1 == (c == 9))) (.br (c == 10) (.leaf f.2.2.2.2.2.1) (.leaf (c == 11)))))))
def ZzM (c : Int) (f : TF) : Bool := (Zsc c f).val
def ZF5 : Entry := Zm ZmM ZmN (fun _ => none) (fun a => ZzM a.1 a.2)
theorem ZzL : Zc Tryz.prog 322 ZF5 :=
 pureQ 70644700037215 [] [] ZmM ZmN trivial Tryz.func322 Tryz.call322 trivial (t := fun a => Zsc a.1 a.2) (fun a => by kernel_rfl)
abbrev ZiE : List Sh := [Sh.one (R.int i64)]
abbrev ZiF : Rs := Rs.one (Sh.one (R.int u16))
def Zmo (s : Int) : RT (Int) :=
 .br (s == 1) (.leaf (36)) (.br (s == 2) (.leaf (60)) (.br (s == 3) (.leaf (52)) (.br (s == 4) (.leaf (44)) (.leaf (0)))))
def Zrh (s : Int) : Int := (Zmo s).val
def ZCC : Entry := Zm ZiE ZiF (fun _ => none) (fun a => Zrh a)
theorem ZvW : Zc Tryz.prog 177 ZCC :=
 pureQ 1367 [] [] ZiE ZiF trivial Tryz.func177 Tryz.call177 trivial (t := fun a => Zmo a) (fun a => by kernel_rfl)
abbrev Zus : List Sh := [Sh.one (R.int u8)]
abbrev Zut : Rs := Rs.tup [Sh.agg (R.pair (R.int i64) (R.pair (R.int i64) (R.pair (R.int i64) (R.pair (R.int i64) (R.pair (R.int i64) (R.pair (R.int i64) (R.pair (R.int i64) (R.int i64)))))))), Sh.one R.bool]
def ZzD (op : Int) : RT (TI × Bool) :=
 .br (op == 8) (.leaf (((40, 1, 0, 0, 0, 0, 0, 0), true))) (.br (op == 16) (.leaf (((41, 1, 0, 0, 0, 0, 0, 0), true))) (.br (op == 24) (.leaf (((42, 1, 0, 0, 0, 0, 0, 0), true))) (.br (op == 32) (.leaf (((38, 1, 0, 0, 0, 0, 0, 0), true))) (.br (op == 40) (.leaf (((43, 2, 0, 0, 0, 0, 0, 0), true))) (.br (op == 48) (.leaf (((39, 1, 0, 0, 0, 0, 0, 0), true))) (.br (op == 56) (.leaf (((44, 2, 0, 0, 0, 0, 0, 0), true))) (.br (op == 203) (.leaf (((45, 1, 0, 0, 0, 0, 10, 0), true))) (.br (op == 217) (.leaf (((46, 1, 0, 0, 0, 0, 0, 0), true))) (.br (op == 221) (.leaf (((24, 3, 0, 0, 0, 0, 8, 0), true))) (.br (op == 237) (.leaf (((47, 1, 0, 0, 0, 0, 0, 0), true))) (.br (op == 253) (.leaf (((24, 3, 0, 0, 0, 0, 9, 0), true))) (.leaf (((0, 0, 0, 0, 0, 0, 0, 0), false))))))))))))))
def ZzF (op : Int) : TI × Bool := (ZzD op).val
def ZzE : Entry := Zm Zus Zut (fun _ => none) (fun a => ZzF a)
theorem ZzC : Zc Tryz.prog 239 ZzE :=
 pureQ 314146179375 [] [] Zus Zut trivial Tryz.func239 Tryz.call239 trivial (t := fun a => ZzD a) (fun a => by kernel_rfl)
abbrev Zk8 : List Sh := [Sh.one (R.int u8)]
abbrev Zk9 : Rs := Rs.tup [Sh.agg (R.pair (R.int i64) (R.pair (R.int i64) (R.pair (R.int i64) (R.pair (R.int i64) (R.pair (R.int i64) (R.pair (R.int i64) (R.pair (R.int i64) (R.int i64)))))))), Sh.one R.bool]
def ZpI (op : Int) : RT (TI × Bool) :=
 .br (bif op == 0 then op == 0 else bif op == 8 then op == 8 else bif op == 16 then op == 16 else bif op == 24 then op == 24 else bif op == 32 then op == 32 else bif op == 40 then op == 40 else bif op == 48 then op == 48 else op == 56) (.leaf (((1, 1, 0, 0, 0, 0, 0, 0), true))) (.br (bif op == 195 then op == 195 else op == 203) (.leaf (((24, 3, 0, 0, 0, 0, 11, 0), true))) (.br (bif op == 201 then op == 201 else op == 217) (.leaf (((26, 1, 0, 0, 0, 0, 11, 0), true))) (.br (bif op == 205 then op == 205 else bif op == 221 then op == 221 else bif op == 237 then op == 237 else op == 253) (.leaf (((25, 3, 0, 0, 0, 0, 11, 0), true))) (.leaf (((0, 0, 0, 0, 0, 0, 0, 0), false))))))
def ZfS (op : Int) : TI × Bool := (ZpI op).val
def ZpJ : Entry := Zm Zk8 Zk9 (fun _ => none) (fun a => ZfS a)
theorem Zso : Zc Tryz.prog 240 ZpJ :=
 pureQ 8945711 [] [] Zk8 Zk9 trivial Tryz.func240 Tryz.call240 trivial (t := fun a => ZpI a) (fun a => by kernel_rfl)
abbrev Zzt : List Sh := [Sh.one (R.int u8)]
abbrev Zru : Rs := Rs.one (Sh.agg (R.pair (R.int i64) (R.pair (R.int i64) (R.pair (R.int i64) (R.pair (R.int i64) (R.pair (R.int i64) (R.pair (R.int i64) (R.pair (R.int i64) (R.int i64)))))))))
def Zzu (op : Int) : RT (Option TI) :=
 let x1 : QT21 := (0, 0, i64.wrap (andI u8 (shrI u8 op 4) 3), 0, 0, 0)
 let x2 : QT18 := (1, x1)
 let x3 := decide (i64.wrap (andI u8 (shrI u8 op 3) 7) < 4) && andI u8 op 8 != 0
 let x4 := decide (0 ≤ i64.wrap (i64.wrap (andI u8 (shrI u8 op 3) 7) - 4) ∧ i64.wrap (i64.wrap (andI u8 (shrI u8 op 3) 7) - 4) < 4)
 let x5 := i64.wrap (i64.wrap (andI u8 (shrI u8 op 3) 7) - 4) == 0
 let x6 := i64.wrap (i64.wrap (andI u8 (shrI u8 op 3) 7) - 4) == ↑(0 + 1)
 let x7 := i64.wrap (i64.wrap (andI u8 (shrI u8 op 3) 7) - 4) == ↑(0 + 1 + 1)
 let x8 : QT21 := (i64.wrap (andI u8 (shrI u8 op 3) 7), 0, 0, 0, 0, 0)
 let x9 : QT18 := (1, x8)
 .br (andI u8 op 7 == 1) (.br (andI u8 op 8 != 0) (.leaf (some ((18, x2)))) (.leaf (some ((4, 3, x1))))) (.br (!andI u8 op 7 == 2 || (x3 || (decide (i64.wrap (andI u8 (shrI u8 op 3) 7) < 4) || x4))) (.br (andI u8 op 7 == 2) (.br (x3) (.leaf (some ((9, x2)))) (.br (decide (i64.wrap (andI u8 (shrI u8 op 3) 7) < 4)) (.leaf (some ((10, x2)))) (.leaf (some ((bif x5 then 8 else bif x6 then 7 else bif x7 then 6 else 5, 3, 0, 0, 0, 0, 0, 0)))))) (.br (andI u8 op 7 == 3) (.br (andI u8 op 8 != 0) (.leaf (some ((17, x2)))) (.leaf (some ((16, x2))))) (.br (andI u8 op 7 == 4) (.leaf (some ((14, x9)))) (.br (andI u8 op 7 == 5) (.leaf (some ((15, x9)))) (.br (andI u8 op 7 == 6) (.leaf (some ((3, 2, x8)))) (.br (decide (i64.wrap (andI u8 (shrI u8 op 3) 7) < 4)) (.leaf (some ((23, 1, 0, 0, 0, i64.wrap (andI u8 (shrI u8 op 3) 7), 0, 0)))) (.br (x4) (.leaf (some ((bif x5 then 19 else bif x6 then 20 else bif x7 then 21 else 22, 1, 0, 0, 0, 0, 0, 0)))) (.leaf none)))))))) (.leaf none))
def ZFZ (op : Int) : QT4 := getO Zru.dflt (Zzu op).val
def Zzv (op : Int) : Bool := okB (Zzu op).val
def ZEq : Entry := Zm Zzt Zru (fun a => some (Zzv a)) (fun a => ZFZ a)
theorem ZCR : Zc Tryz.prog 241 ZEq :=
 pureP 614758941389750335 [] [] Zzt Zru trivial Tryz.func241 Tryz.call241 trivial (t := fun a => Zzu a) (fun a => by kernel_rfl)
abbrev Zuo : List Sh := [Sh.one (R.int u8)]
abbrev Zmz : Rs := Rs.one (Sh.agg (R.pair (R.int i64) (R.pair (R.int i64) (R.pair (R.int i64) (R.pair (R.int i64) (R.pair (R.int i64) (R.pair (R.int i64) (R.pair (R.int i64) (R.int i64)))))))))
def Zrv (op : Int) : RT (Option TI) :=
 let x1 : QT21 := (0, 0, 0, 0, i64.wrap (andI u8 (shrI u8 op 3) 7), 0)
 let x2 : QT18 := (1, 0, 0, i64.wrap (andI u8 (shrI u8 op 4) 3), 0, 0, 0)
 let x3 := andI u8 op 7 == 2 || (!andI u8 op 7 == 3 || (!decide (i64.wrap (andI u8 (shrI u8 op 3) 7) < 4) || decide (0 ≤ i64.wrap (i64.wrap (andI u8 (shrI u8 op 3) 7) - 2) ∧ i64.wrap (i64.wrap (andI u8 (shrI u8 op 3) 7) - 2) < 2)))
 let x4 : QT18 := (3, x1)
 .br (andI u8 op 7 == 0) (.leaf (some ((26, 1, x1)))) (.br (andI u8 op 7 == 1) (.br (!andI u8 op 8 != 0) (.leaf (some ((31, x2)))) (.br (i64.wrap (andI u8 (shrI u8 op 3) 7) == 5) (.leaf (some ((28, 1, 0, 0, 0, 0, 0, 0)))) (.leaf (some ((29, 1, 0, 0, 0, 0, 0, 0)))))) (.br (!x3 || (andI u8 op 7 == 2 || (!andI u8 op 7 == 3 || (decide (i64.wrap (andI u8 (shrI u8 op 3) 7) < 4) || decide (0 ≤ i64.wrap (i64.wrap (andI u8 (shrI u8 op 3) 7) - 4) ∧ i64.wrap (i64.wrap (andI u8 (shrI u8 op 3) 7) - 4) < 4))))) (.br (x3) (.br (andI u8 op 7 == 2) (.leaf (some ((24, x4)))) (.br (andI u8 op 7 == 3) (.br (decide (i64.wrap (andI u8 (shrI u8 op 3) 7) < 4)) (.leaf (some ((bif i64.wrap (i64.wrap (andI u8 (shrI u8 op 3) 7) - 2) == 0 then 34 else 33, 2, 0, 0, 0, 0, 0, 0)))) (.leaf (some ((bif i64.wrap (i64.wrap (andI u8 (shrI u8 op 3) 7) - 4) == 0 then 32 else bif i64.wrap (i64.wrap (andI u8 (shrI u8 op 3) 7) - 4) == ↑(0 + 1) then 11 else bif i64.wrap (i64.wrap (andI u8 (shrI u8 op 3) 7) - 4) == ↑(0 + 1 + 1) then 36 else 35, 1, 0, 0, 0, 0, 0, 0))))) (.br (andI u8 op 7 == 4) (.leaf (some ((25, x4)))) (.br (andI u8 op 7 == 5) (.leaf (some ((30, x2)))) (.br (andI u8 op 7 == 6) (.leaf (some ((13, 2, 0, 0, 0, i64.wrap (andI u8 (shrI u8 op 3) 7), 0, 0)))) (.leaf (some ((27, 1, 0, 0, 0, 0, 0, i64.wrap (andI u8 (shrI u8 op 3) 7)))))))))) (.leaf none)) (.leaf none)))
def Zzy (op : Int) : QT4 := getO Zmz.dflt (Zrv op).val
def Zrw (op : Int) : Bool := okB (Zrv op).val
def Zzx : Entry := Zm Zuo Zmz (fun a => some (Zrw a)) (fun a => Zzy a)
theorem Zzw : Zc Tryz.prog 242 Zzx :=
 pureP 614741495173873727 [] [] Zuo Zmz trivial Tryz.func242 Tryz.call242 trivial (t := fun a => Zrv a) (fun a => by kernel_rfl)
abbrev ZfT : List Sh := [Sh.one (R.int i64), Sh.one (R.int u8)]
abbrev ZfU : Rs := Rs.one (Sh.agg (R.pair (R.int i64) (R.pair (R.int i64) (R.pair (R.int i64) (R.pair (R.int i64) (R.pair (R.int i64) (R.pair (R.int i64) (R.pair (R.int i64) (R.int i64)))))))))
def Zdw (chip : Int) (op : Int) : RT (Option TI) :=
 let x1 : QT4 := (37, 1, 0, 0, 0, 0, 0, 0)
 let x2 : QT4 := (2, 1, i64.wrap (andI u8 (shrI u8 op 3) 7), i64.wrap (andI u8 op 7), 0, 0, 0, 0)
 let x3 : QT4 := (12, 1, 0, i64.wrap (andI u8 op 7), 0, i64.wrap (andI u8 (shrI u8 op 3) 7), 0, 0)
 .br (chip == 2) (.br (ZzF op).2 (.leaf (some (ZzF op).1)) (.br (ZfS op).2 (.leaf (some (ZfS op).1)) (.br (!shrI u8 op 6 == 0 || Zzv op) (.br (shrI u8 op 6 == 0) (.leaf (some (ZFZ op))) (.br (shrI u8 op 6 == 1) (.br (op == 118) (.leaf (some (x1))) (.leaf (some (x2)))) (.br (shrI u8 op 6 == 2) (.leaf (some (x3))) (.br (Zrw op) (.leaf (some (Zzy op))) (.leaf none))))) (.leaf none)))) (.br (ZfS op).2 (.leaf (some (ZfS op).1)) (.br (!shrI u8 op 6 == 0 || Zzv op) (.br (shrI u8 op 6 == 0) (.leaf (some (ZFZ op))) (.br (shrI u8 op 6 == 1) (.br (op == 118) (.leaf (some (x1))) (.leaf (some (x2)))) (.br (shrI u8 op 6 == 2) (.leaf (some (x3))) (.br (Zrw op) (.leaf (some (Zzy op))) (.leaf none))))) (.leaf none)))
def Zjv (chip : Int) (op : Int) : QT4 := getO ZfU.dflt (Zdw chip op).val
def ZhR (chip : Int) (op : Int) : Bool := okB (Zdw chip op).val
def ZC0 : Entry := Zm ZfT ZfU (fun a => some (ZhR a.1 a.2)) (fun a => Zjv a.1 a.2)
theorem ZwQ : Zc Tryz.prog 182 ZC0 :=
 pureP 17594467746303 [(239, ZzE), (240, ZpJ), (241, ZEq), (242, Zzx)] [] ZfT ZfU ⟨ZzC, Zso, ZCR, Zzw, trivial⟩ Tryz.func182 Tryz.call182 trivial (t := fun a => Zdw a.1 a.2) (fun a => by kernel_rfl)
def rOnT (chip : Int) : RT (Bool) :=
 .leaf (chip == 2)
def rOn (chip : Int) : Bool := (rOnT chip).val
def ZCi (b : Int) : RT (Bool) :=
 let x1 := i64.wrap (i64.wrap (i64.wrap (i64.wrap (0 + 1) + 1) + 1) + 1)
 let x2 := i64.wrap (x1 + 1)
 let x3 := i64.wrap (x2 + 1)
 let x4 := bif andI u8 (shrI u8 b (i64.wrap (0 + 1))) 1 == 1 then !!andI u8 (shrI u8 b 0) 1 == 1 else !andI u8 (shrI u8 b 0) 1 == 1
 let x5 := bif andI u8 (shrI u8 b (i64.wrap (i64.wrap (0 + 1) + 1))) 1 == 1 then !x4 else x4
 let x6 := bif andI u8 (shrI u8 b (i64.wrap (i64.wrap (i64.wrap (0 + 1) + 1) + 1))) 1 == 1 then !x5 else x5
 let x7 := bif andI u8 (shrI u8 b x1) 1 == 1 then !x6 else x6
 let x8 := bif andI u8 (shrI u8 b x2) 1 == 1 then !x7 else x7
 let x9 := bif andI u8 (shrI u8 b x3) 1 == 1 then !x8 else x8
 .leaf (bif andI u8 (shrI u8 b (i64.wrap (x3 + 1))) 1 == 1 then !x9 else x9)
def Zl1 (b : Int) : Bool := (ZCi b).val
def rMajT (a : Bool) (b : Bool) (c : Bool) : RT (Bool) :=
 .leaf (bif a then b || bif a then c || b && c else b && c else bif a then c || b && c else b && c)
def rMaj (a : Bool) (b : Bool) (c : Bool) : Bool := (rMajT a b c).val
def rOneT (b : Bool) : RT (Int) :=
 .br (b) (.leaf (1)) (.leaf (0))
def rOne (b : Bool) : Int := (rOneT b).val
def ZlY (n : Int) : RT (Int) :=
 .leaf (i64.wrap (IntKind.i8.wrap n))
def Zc3 (n : Int) : Int := (ZlY n).val
def ZFq (a : Int) (b : Int) (c : Bool) : RT (QT17) :=
 let x1 := decide (i64.wrap (i64.wrap (Zc3 a + Zc3 b) + rOne c) < -128)
 let x2 := i64.wrap (i64.wrap (i64.wrap a + i64.wrap b) + rOne c)
 let x3 := u8.wrap x2
 let x4 := decide (x2 > 255)
 let x5 := decide (i64.wrap (i64.wrap (i64.wrap (andI u8 a 15) + i64.wrap (andI u8 b 15)) + rOne c) > 15)
 .leaf ((bif x1 then x3 else x3, bif x1 then x4 else x4, bif x1 then x5 else x5, x1 || decide (i64.wrap (i64.wrap (Zc3 a + Zc3 b) + rOne c) > 127)))
def rSum (a : Int) (b : Int) (c : Bool) : QT17 := (ZFq a b c).val
def ZyD (a : Int) (b : Int) (c : Bool) : RT (QT17) :=
 let x1 := decide (i64.wrap (i64.wrap (Zc3 a - Zc3 b) - rOne c) < -128)
 let x2 := i64.wrap (i64.wrap (i64.wrap a - i64.wrap b) - rOne c)
 let x3 := u8.wrap x2
 let x4 := decide (x2 < 0)
 let x5 := decide (i64.wrap (i64.wrap (i64.wrap (i64.wrap (andI u8 a 15) + i64.wrap (u8.wrap (15 - andI u8 b 15))) + 1) - rOne c) > 15)
 .leaf ((bif x1 then x3 else x3, bif x1 then x4 else x4, bif x1 then x5 else x5, x1 || decide (i64.wrap (i64.wrap (Zc3 a - Zc3 b) - rOne c) > 127)))
def ZbG (a : Int) (b : Int) (c : Bool) : QT17 := (ZyD a b c).val
def ZHD (h : Int) (l : Int) : RT (Int) :=
 .leaf (orI u16 (shlI u16 (u16.wrap h) 8) (u16.wrap l))
def ZaH (h : Int) (l : Int) : Int := (ZHD h l).val
abbrev ZHM : Rs := Rs.one (Sh.one (R.int u8))
def ZFC (b : Bool) (n : Int) : RT (Option (Int)) :=
 .br (!b || decide (0 ≤ n)) (.br (b) (.leaf (some (shlI u8 1 n))) (.leaf (some (0)))) (.leaf none)
def rBit (b : Bool) (n : Int) : Int := getO ZHM.dflt (ZFC b n).val
def ZcD (b : Bool) (n : Int) : Bool := okB (ZFC b n).val
abbrev ZFu : Rs := Rs.one (Sh.one (R.int u8))
def ZtP (chip : Int) (f : TF) : RT (Option (Int)) :=
 let x1 := orI u8 (orI u8 (orI u8 (orI u8 (rBit f.1 7) (rBit f.2.1 6)) (rBit f.2.2.2.1 4)) (rBit f.2.2.2.2.1 2)) (rBit f.2.2.2.2.2.2 0)
 .br (!ZcD f.1 7 || (!ZcD f.2.1 6 || (!ZcD f.2.2.2.1 4 || (!ZcD f.2.2.2.2.1 2 || ZcD f.2.2.2.2.2.2 0)))) (.br (!ZcD f.1 7 || (!ZcD f.2.1 6 || (!ZcD f.2.2.2.1 4 || ZcD f.2.2.2.2.1 2))) (.br (!ZcD f.1 7 || (!ZcD f.2.1 6 || ZcD f.2.2.2.1 4)) (.br (!ZcD f.1 7 || ZcD f.2.1 6) (.br (ZcD f.1 7) (.br (!rOn chip || (!ZcD f.2.2.1 5 || ZcD f.2.2.2.2.2.1 1)) (.br (!rOn chip || ZcD f.2.2.1 5) (.br (rOn chip) (.leaf (some (orI u8 (orI u8 x1 (rBit f.2.2.1 5)) (rBit f.2.2.2.2.2.1 1)))) (.leaf (some (orI u8 x1 2)))) (.leaf none)) (.leaf none)) (.leaf none)) (.leaf none)) (.leaf none)) (.leaf none)) (.leaf none)
def Zhs (chip : Int) (f : TF) : Int := getO ZFu.dflt (ZtP chip f).val
def Zis (chip : Int) (f : TF) : Bool := okB (ZtP chip f).val
def ZtD (chip : Int) (b : Int) : RT TF :=
 .leaf ((andI u8 b 128 != 0, andI u8 b 64 != 0, rOn chip && andI u8 b 32 != 0, andI u8 b 16 != 0, andI u8 b 4 != 0, rOn chip && andI u8 b 2 != 0, andI u8 b 1 != 0))
def Zd5 (chip : Int) (b : Int) : TF := (ZtD chip b).val
def rOfT (r : Int) : RT TF :=
 .leaf ((decide (r ≥ 128), r == 0, false, false, Zl1 r, false, false))
def rOf (r : Int) : TF := (rOfT r).val
def ZoC (chip : Int) (f : TF) (k : Bool) (v : Bool) : RT TF :=
 .leaf ((f.1, f.2.1, rOn chip && bif rOn chip then k else k, f.2.2.2.1, f.2.2.2.2.1, bif rOn chip then rOn chip && v else rOn chip && v, f.2.2.2.2.2.2))
def Zl2 (chip : Int) (f : TF) (k : Bool) (v : Bool) : TF := (ZoC chip f k v).val
abbrev ZHG : Rs := Rs.one (Sh.one (R.int u8))
def ZCo (r : TR) (n : Int) : RT (Option (Int)) :=
 .br (decide (0 ≤ andI i64 n 7 ∧ andI i64 n 7 < 8)) (.leaf (some (bif andI i64 n 7 == 0 then r.2.1 else bif andI i64 n 7 == ↑(0 + 1) then r.2.2.1 else bif andI i64 n 7 == ↑(0 + 1 + 1) then r.2.2.2.1 else bif andI i64 n 7 == ↑(0 + 1 + 1 + 1) then r.2.2.2.2.1 else bif andI i64 n 7 == ↑(0 + 1 + 1 + 1 + 1) then r.2.2.2.2.2.1 else bif andI i64 n 7 == ↑(0 + 1 + 1 + 1 + 1 + 1) then r.2.2.2.2.2.2.1 else bif andI i64 n 7 == ↑(0 + 1 + 1 + 1 + 1 + 1 + 1) then 0 else r.1))) (.leaf none)
def rGet (r : TR) (n : Int) : Int := getO ZHG.dflt (ZCo r n).val
def ZyA (r : TR) (n : Int) : Bool := okB (ZCo r n).val
def ZHu (r : TR) (n : Int) (v : Int) : RT TR :=
 .leaf ((bif andI i64 n 7 == 0 then r.1 else bif andI i64 n 7 == 1 then r.1 else bif andI i64 n 7 == 2 then r.1 else bif andI i64 n 7 == 3 then r.1 else bif andI i64 n 7 == 4 then r.1 else bif andI i64 n 7 == 5 then r.1 else bif andI i64 n 7 == 7 then v else r.1, bif andI i64 n 7 == 0 then v else r.2.1, bif andI i64 n 7 == 0 then r.2.2.1 else bif andI i64 n 7 == 1 then v else r.2.2.1, bif andI i64 n 7 == 0 then r.2.2.2.1 else bif andI i64 n 7 == 1 then r.2.2.2.1 else bif andI i64 n 7 == 2 then v else r.2.2.2.1, bif andI i64 n 7 == 0 then r.2.2.2.2.1 else bif andI i64 n 7 == 1 then r.2.2.2.2.1 else bif andI i64 n 7 == 2 then r.2.2.2.2.1 else bif andI i64 n 7 == 3 then v else r.2.2.2.2.1, bif andI i64 n 7 == 0 then r.2.2.2.2.2.1 else bif andI i64 n 7 == 1 then r.2.2.2.2.2.1 else bif andI i64 n 7 == 2 then r.2.2.2.2.2.1 else bif andI i64 n 7 == 3 then r.2.2.2.2.2.1 else bif andI i64 n 7 == 4 then v else r.2.2.2.2.2.1, bif andI i64 n 7 == 0 then r.2.2.2.2.2.2.1 else bif andI i64 n 7 == 1 then r.2.2.2.2.2.2.1 else bif andI i64 n 7 == 2 then r.2.2.2.2.2.2.1 else bif andI i64 n 7 == 3 then r.2.2.2.2.2.2.1 else bif andI i64 n 7 == 4 then r.2.2.2.2.2.2.1 else bif andI i64 n 7 == 5 then v else r.2.2.2.2.2.2.1, r.2.2.2.2.2.2.2))
def rSet (r : TR) (n : Int) (v : Int) : TR := (ZHu r n v).val
abbrev ZFt : Rs := Rs.one (Sh.one (R.int u16))
def ZD9 (r : TR) (n : Int) : RT (Option (Int)) :=
 .br (andI i64 n 3 == 3) (.leaf (some r.2.2.2.2.2.2.2.2.1)) (.br (!ZyA r (i64.wrap (2 * andI i64 n 3)) || ZyA r (i64.wrap (i64.wrap (2 * andI i64 n 3) + 1))) (.br (ZyA r (i64.wrap (2 * andI i64 n 3))) (.leaf (some (ZaH (rGet r (i64.wrap (2 * andI i64 n 3))) (rGet r (i64.wrap (i64.wrap (2 * andI i64 n 3) + 1)))))) (.leaf none)) (.leaf none))
def ZaN (r : TR) (n : Int) : Int := getO ZFt.dflt (ZD9 r n).val
def ZoA (r : TR) (n : Int) (v : Int) : RT TR :=
 .br (andI i64 n 3 == 3) (.leaf ((r.1, r.2.1, r.2.2.1, r.2.2.2.1, r.2.2.2.2.1, r.2.2.2.2.2.1, r.2.2.2.2.2.2.1, r.2.2.2.2.2.2.2.1, v, r.2.2.2.2.2.2.2.2.2))) (.leaf (rSet (rSet r (i64.wrap (2 * andI i64 n 3)) (u8.wrap (shrI u16 v 8))) (i64.wrap (i64.wrap (2 * andI i64 n 3) + 1)) (u8.wrap v)))
def ZL (r : TR) (n : Int) (v : Int) : TR := (ZoA r n v).val
abbrev ZHz : Rs := Rs.one (Sh.one (R.int u16))
def ZFv (chip : Int) (r : TR) : RT (Option (Int)) :=
 .br (Zis chip r.2.2.2.2.2.2.2.1) (.leaf (some (ZaH r.1 (Zhs chip r.2.2.2.2.2.2.2.1)))) (.leaf none)
def rPSW (chip : Int) (r : TR) : Int := getO ZHz.dflt (ZFv chip r).val
def ZtF (chip : Int) (r : TR) (v : Int) : RT TR :=
 .leaf ((u8.wrap (shrI u16 v 8), r.2.1, r.2.2.1, r.2.2.2.1, r.2.2.2.2.1, r.2.2.2.2.2.1, r.2.2.2.2.2.2.1, Zd5 chip (u8.wrap v), r.2.2.2.2.2.2.2.2))
def Zir (chip : Int) (r : TR) (v : Int) : TR := (ZtF chip r v).val
def rDoT (chip : Int) (op : Int) (a : Int) (b : Int) (f : TF) : RT (QT2) :=
 let x1 := bif andI i64 op 7 == 0 then andI i64 op 7 == 0 else andI i64 op 7 == 1
 let x2 := bif andI i64 op 7 == 2 then andI i64 op 7 == 2 else bif andI i64 op 7 == 3 then andI i64 op 7 == 3 else andI i64 op 7 == 7
 let x3 : Int := bif x1 then bif andI i64 op 7 == 1 then (rSum a b f.2.2.2.2.2.2).1 else (rSum a b false).1 else bif x2 then bif andI i64 op 7 == 3 then (ZbG a b f.2.2.2.2.2.2).1 else (ZbG a b false).1 else bif andI i64 op 7 == 4 then bif rOn chip then andI u8 a b else andI u8 a b else bif andI i64 op 7 == 5 then xorI u8 a b else bif andI i64 op 7 == 6 then orI u8 a b else 0
 let x4 := rOf x3
 let x5 := x4.2
 let x6 := x5.2
 let x7 := x6.2.2
 let x8 := Zl2 chip (x4.1, x5.1, x6.1, bif x1 then bif andI i64 op 7 == 1 then (rSum a b f.2.2.2.2.2.2).2.2.1 else (rSum a b false).2.2.1 else bif x2 then bif andI i64 op 7 == 3 then (ZbG a b f.2.2.2.2.2.2).2.2.1 else (ZbG a b false).2.2.1 else andI i64 op 7 == 4 && (rOn chip || andI u8 (orI u8 a b) 8 != 0), x7.1, x7.2.1, bif x1 then bif andI i64 op 7 == 1 then (rSum a b f.2.2.2.2.2.2).2.1 else (rSum a b false).2.1 else x2 && bif andI i64 op 7 == 3 then (ZbG a b f.2.2.2.2.2.2).2.1 else (ZbG a b false).2.1) (rMaj (decide (a ≥ 128)) (bif x1 then decide (b ≥ 128) else bif x2 then !decide (b ≥ 128) else decide (b ≥ 128)) (decide (x3 ≥ 128))) (bif x1 then bif andI i64 op 7 == 1 then (rSum a b f.2.2.2.2.2.2).2.2.2 else (rSum a b false).2.2.2 else x2 && bif andI i64 op 7 == 3 then (ZbG a b f.2.2.2.2.2.2).2.2.2 else (ZbG a b false).2.2.2)
 .br (andI i64 op 7 == 7) (.leaf ((a, x8))) (.leaf ((x3, x8)))
def rDo (chip : Int) (op : Int) (a : Int) (b : Int) (f : TF) : QT2 := (rDoT chip op a b f).val
def ZHF (chip : Int) (v : Int) (f : TF) : RT (QT2) :=
 .leaf (((rSum v 1 false).1, Zl2 chip ((rOf (rSum v 1 false).1).1, (rOf (rSum v 1 false).1).2.1, (rOf (rSum v 1 false).1).2.2.1, (rSum v 1 false).2.2.1, (rOf (rSum v 1 false).1).2.2.2.2.1, (rOf (rSum v 1 false).1).2.2.2.2.2.1, f.2.2.2.2.2.2) (rMaj (decide (v ≥ 128)) false (decide ((rSum v 1 false).1 ≥ 128))) (rSum v 1 false).2.2.2))
def rInr (chip : Int) (v : Int) (f : TF) : QT2 := (ZHF chip v f).val
def ZHJ (chip : Int) (v : Int) (f : TF) : RT (QT2) :=
 .leaf (((ZbG v 1 false).1, Zl2 chip ((rOf (ZbG v 1 false).1).1, (rOf (ZbG v 1 false).1).2.1, (rOf (ZbG v 1 false).1).2.2.1, (ZbG v 1 false).2.2.1, (rOf (ZbG v 1 false).1).2.2.2.2.1, (rOf (ZbG v 1 false).1).2.2.2.2.2.1, f.2.2.2.2.2.2) (rMaj (decide (v ≥ 128)) true (decide ((ZbG v 1 false).1 ≥ 128))) (ZbG v 1 false).2.2.2))
def rDcr (chip : Int) (v : Int) (f : TF) : QT2 := (ZHJ chip v f).val
def ZHE (chip : Int) (v : Int) (f : TF) : RT (QT2) :=
 .leaf ((u16.wrap (v + 1), f.1, f.2.1, bif rOn chip then v == 65535 else f.2.2.1, f.2.2.2))
def rInx (chip : Int) (v : Int) (f : TF) : QT2 := (ZHE chip v f).val
def ZHI (chip : Int) (v : Int) (f : TF) : RT (QT2) :=
 .leaf ((u16.wrap (v - 1), f.1, f.2.1, bif rOn chip then v == 0 else f.2.2.1, f.2.2.2))
def rDcx (chip : Int) (v : Int) (f : TF) : QT2 := (ZHI chip v f).val
def ZHK (chip : Int) (a : Int) (b : Int) (f : TF) : RT (QT2) :=
 .leaf ((u16.wrap (a + b), f.1, f.2.1, f.2.2.1, f.2.2.2.1, f.2.2.2.2.1, bif rOn chip then decide (i64.wrap (i64.wrap (IntKind.i16.wrap a) + i64.wrap (IntKind.i16.wrap b)) < -32768) || decide (i64.wrap (i64.wrap (IntKind.i16.wrap a) + i64.wrap (IntKind.i16.wrap b)) > 32767) else f.2.2.2.2.2.1, decide (i64.wrap (i64.wrap a + i64.wrap b) > 65535)))
def rDad (chip : Int) (a : Int) (b : Int) (f : TF) : QT2 := (ZHK chip a b f).val
def ZEb (a : Int) (b : Int) : RT (QT2) :=
 let x1 := ZbG (u8.wrap (shrI u16 a 8)) (u8.wrap (shrI u16 b 8)) (ZbG (u8.wrap a) (u8.wrap b) false).2.1
 let x2 := x1.1
 let x3 := x2 == 0
 let x4 := ZaH x2 (ZbG (u8.wrap a) (u8.wrap b) false).1
 let x5 := decide (x2 ≥ 128)
 let x6 := rMaj (decide (a ≥ 32768)) (decide (b < 32768)) x5
 let x7 := x1.2
 let x8 := x7.2
 let x9 := x8.1
 let x10 := Zl1 x2
 let x11 := x8.2
 let x12 := x7.1
 .leaf ((bif x3 then x4 else x4, bif x3 then x5 else x5, x3 && (ZbG (u8.wrap a) (u8.wrap b) false).1 == 0, bif x3 then x6 else x6, bif x3 then x9 else x9, bif x3 then x10 else x10, bif x3 then x11 else x11, bif x3 then x12 else x12))
def ZyC (a : Int) (b : Int) : QT2 := (ZEb a b).val
def ZHL (chip : Int) (a : Int) (f : TF) : RT (QT2) :=
 let x1 : Int := bif f.2.2.2.1 || decide (andI u8 a 15 > 9) then 6 else 0
 let x2 := rSum a (bif f.2.2.2.2.2.2 || decide (a > 153) then u8.wrap (x1 + 96) else x1) false
 let x3 := x2.1
 let x4 := rOf x3
 let x5 := x4.2
 let x6 := x5.2
 let x7 := x2.2.2
 let x8 := x6.2.2
 .leaf ((x3, Zl2 chip (x4.1, x5.1, x6.1, x7.1, x8.1, x8.2.1, f.2.2.2.2.2.2 || decide (a > 153)) (rMaj (decide (a ≥ 128)) false (decide (x3 ≥ 128))) x7.2))
def rDaa (chip : Int) (a : Int) (f : TF) : QT2 := (ZHL chip a f).val
abbrev ZHw : Rs := Rs.tup [Sh.one (R.int u8), Sh.one R.bool]
def ZHv (op : Int) (a : Int) (c : Bool) : RT (Option (Int × Bool)) :=
 .br (andI i64 op 3 == 0 || (andI i64 op 3 == 1 || (!andI i64 op 3 == 2 || ZcD c 0))) (.br (andI i64 op 3 == 0) (.leaf (some ((orI u8 (shlI u8 a 1) (shrI u8 a 7), decide (a ≥ 128))))) (.br (andI i64 op 3 == 1) (.leaf (some ((orI u8 (shrI u8 a 1) (shlI u8 a 7), andI u8 a 1 == 1)))) (.br (andI i64 op 3 == 2) (.leaf (some ((orI u8 (shlI u8 a 1) (rBit c 0), decide (a ≥ 128))))) (.br (ZcD c 7) (.leaf (some ((orI u8 (shrI u8 a 1) (rBit c 7), andI u8 a 1 == 1)))) (.leaf none))))) (.leaf none)
def rRot (op : Int) (a : Int) (c : Bool) : Int × Bool := getO ZHw.dflt (ZHv op a c).val
def ZHN (v : Int) : RT (Int × Bool) :=
 .leaf ((orI u16 (shrI u16 v 1) (andI u16 v 32768), andI u16 v 1 == 1))
def ZCs (v : Int) : Int × Bool := (ZHN v).val
abbrev ZFs : Rs := Rs.tup [Sh.one (R.int u16), Sh.one R.bool, Sh.one R.bool]
def ZD8 (v : Int) (c : Bool) : RT (Option (Int × Bool × Bool)) :=
 .br (ZcD c 0) (.leaf (some ((orI u16 (shlI u16 v 1) (u16.wrap (rBit c 0)), decide (v ≥ 32768), andI u16 (orI u16 (shlI u16 v 1) (u16.wrap (rBit c 0))) 32768 != andI u16 v 32768)))) (.leaf none)
def Zym (v : Int) (c : Bool) : Int × Bool × Bool := getO ZFs.dflt (ZD8 v c).val
abbrev ZCr : Rs := Rs.one (Sh.one (R.int u8))
def ZyF (b : Bool) (n : Int) : RT (Option (Int)) :=
 .br (decide (0 ≤ n)) (.leaf (some (u8.wrap (shlI i64 (rOne b) n)))) (.leaf none)
def ZeX (b : Bool) (n : Int) : Int := getO ZCr.dflt (ZyF b n).val
def Zac (b : Bool) (n : Int) : Bool := okB (ZyF b n).val
abbrev ZHx : Rs := Rs.tup [Sh.one (R.int u8), Sh.agg ZbQ]
def ZCe (c : TC) (l : QT1) : RT (Option (Int × TC)) :=
 let x1 := bif c.2.2.2.2.2.2.2.2.2.2.1 then c.2.2.2.2.2.2.2.2.2.2.2.1 else c.2.2.1
 .br (!Zac l.2.2.2.1 7 || (!Zac c.2.2.2.2.2.2.2.1 6 || (!Zac l.2.2.2.2.2.2.1 5 || (!Zac l.2.2.2.2.2.2.2.1 4 || Zac x1 3)))) (.br (!Zac l.2.2.2.1 7 || (!Zac c.2.2.2.2.2.2.2.1 6 || (!Zac l.2.2.2.2.2.2.1 5 || Zac l.2.2.2.2.2.2.2.1 4))) (.br (!Zac l.2.2.2.1 7 || (!Zac c.2.2.2.2.2.2.2.1 6 || Zac l.2.2.2.2.2.2.1 5)) (.br (!Zac l.2.2.2.1 7 || Zac c.2.2.2.2.2.2.2.1 6) (.br (Zac l.2.2.2.1 7) (.leaf (some ((orI u8 (orI u8 (orI u8 (orI u8 (orI u8 (ZeX l.2.2.2.1 7) (ZeX c.2.2.2.2.2.2.2.1 6)) (ZeX l.2.2.2.2.2.2.1 5)) (ZeX l.2.2.2.2.2.2.2.1 4)) (ZeX x1 3)) (andI u8 c.2.2.2.2.2.1 7), c.1, c.2.1, c.2.2.1, c.2.2.2.1, c.2.2.2.2.1, c.2.2.2.2.2.1, c.2.2.2.2.2.2.1, c.2.2.2.2.2.2.2.1, c.2.2.2.2.2.2.2.2.1, c.2.2.2.2.2.2.2.2.2.1, false, false, c.2.2.2.2.2.2.2.2.2.2.2.2)))) (.leaf none)) (.leaf none)) (.leaf none)) (.leaf none)) (.leaf none)
def rRim (c : TC) (l : QT1) : Int × TC := getO ZHx.dflt (ZCe c l).val
def ZHy (c : TC) (l : QT1) : Bool := okB (ZCe c l).val
def ZFr (c : TC) (a : Int) : RT TC :=
 .leaf ((c.1, c.2.1, c.2.2.1, c.2.2.2.1, c.2.2.2.2.1, bif andI u8 a 8 != 0 then andI u8 a 7 else c.2.2.2.2.2.1, c.2.2.2.2.2.2.1, !andI u8 a 16 != 0 && c.2.2.2.2.2.2.2.1, c.2.2.2.2.2.2.2.2.1, c.2.2.2.2.2.2.2.2.2.1, c.2.2.2.2.2.2.2.2.2.2.1, c.2.2.2.2.2.2.2.2.2.2.2.1, bif andI u8 a 64 != 0 then andI u8 a 128 != 0 else c.2.2.2.2.2.2.2.2.2.2.2.2))
def rSim (c : TC) (a : Int) : TC := (ZFr c a).val
def Zyy (c : Int) (f : TF) : RT (Bool) :=
 .br (c == 0) (.leaf (!f.2.1)) (.br (c == 1) (.leaf f.2.1) (.br (c == 2) (.leaf (!f.2.2.2.2.2.2)) (.br (c == 3) (.leaf f.2.2.2.2.2.2) (.br (c == 4) (.leaf (!f.2.2.2.2.1)) (.br (c == 5) (.leaf f.2.2.2.2.1) (.br (c == 6) (.leaf (!f.1)) (.br (c == 7) (.leaf f.1) (.br (c == 8) (.leaf (!f.2.2.1)) (.br (c == 9) (.leaf f.2.2.1) (.br (c == 10) (.leaf f.2.2.2.2.2.1) (.leaf (c == 11))))))))))))
def Zde (c : Int) (f : TF) : Bool := (Zyy c f).val
def ZtC (s : Int) : RT (Int) :=
 .br (s == 1) (.leaf (36)) (.br (s == 2) (.leaf (60)) (.br (s == 3) (.leaf (52)) (.br (s == 4) (.leaf (44)) (.leaf (0)))))
def Zq (s : Int) : Int := (ZtC s).val
def ZvL (s : Int) : RT (Bool) :=
 .leaf (decide (s ≥ 1) && decide (s ≤ 4))
def Za (s : Int) : Bool := (ZvL s).val
def Zyl (op : Int) : RT (TI × Bool) :=
 .br (op == 8) (.leaf (((40, 1, 0, 0, 0, 0, 0, 0), true))) (.br (op == 16) (.leaf (((41, 1, 0, 0, 0, 0, 0, 0), true))) (.br (op == 24) (.leaf (((42, 1, 0, 0, 0, 0, 0, 0), true))) (.br (op == 32) (.leaf (((38, 1, 0, 0, 0, 0, 0, 0), true))) (.br (op == 40) (.leaf (((43, 2, 0, 0, 0, 0, 0, 0), true))) (.br (op == 48) (.leaf (((39, 1, 0, 0, 0, 0, 0, 0), true))) (.br (op == 56) (.leaf (((44, 2, 0, 0, 0, 0, 0, 0), true))) (.br (op == 203) (.leaf (((45, 1, 0, 0, 0, 0, 10, 0), true))) (.br (op == 217) (.leaf (((46, 1, 0, 0, 0, 0, 0, 0), true))) (.br (op == 221) (.leaf (((24, 3, 0, 0, 0, 0, 8, 0), true))) (.br (op == 237) (.leaf (((47, 1, 0, 0, 0, 0, 0, 0), true))) (.br (op == 253) (.leaf (((24, 3, 0, 0, 0, 0, 9, 0), true))) (.leaf (((0, 0, 0, 0, 0, 0, 0, 0), false))))))))))))))
def ZtE (op : Int) : TI × Bool := (Zyl op).val
abbrev ZFw : Rs := Rs.one (Sh.agg (R.pair (R.int i64) (R.pair (R.int i64) (R.pair (R.int i64) (R.pair (R.int i64) (R.pair (R.int i64) (R.pair (R.int i64) (R.pair (R.int i64) (R.int i64)))))))))
def ZEa (y : Int) (z : Int) (p : Int) (q : Int) : RT (Option TI) :=
 let x1 := decide (0 ≤ i64.wrap (y - 4) ∧ i64.wrap (y - 4) < 4)
 .br (z == 0) (.leaf (some ((1, 1, 0, 0, 0, 0, 0, 0)))) (.br (z == 1) (.br (q == 0) (.leaf (some ((4, 3, 0, 0, p, 0, 0, 0)))) (.leaf (some ((18, 1, 0, 0, p, 0, 0, 0))))) (.br (!z == 2 || ((bif y == 0 then y == 0 else y == 2) || ((bif y == 1 then y == 1 else y == 3) || x1))) (.br (z == 2) (.br (bif y == 0 then y == 0 else y == 2) (.leaf (some ((10, 1, 0, 0, p, 0, 0, 0)))) (.br (bif y == 1 then y == 1 else y == 3) (.leaf (some ((9, 1, 0, 0, p, 0, 0, 0)))) (.leaf (some ((bif i64.wrap (y - 4) == 0 then 8 else bif i64.wrap (y - 4) == ↑(0 + 1) then 7 else bif i64.wrap (y - 4) == ↑(0 + 1 + 1) then 6 else 5, 3, 0, 0, 0, 0, 0, 0)))))) (.br (!z == 3 || decide (0 ≤ q ∧ q < 2)) (.br (z == 3) (.leaf (some ((bif q == 0 then 16 else 17, 1, 0, 0, p, 0, 0, 0)))) (.br (z == 4) (.leaf (some ((14, 1, y, 0, 0, 0, 0, 0)))) (.br (z == 5) (.leaf (some ((15, 1, y, 0, 0, 0, 0, 0)))) (.br (z == 6) (.leaf (some ((3, 2, y, 0, 0, 0, 0, 0)))) (.br (decide (y < 4)) (.leaf (some ((23, 1, 0, 0, 0, y, 0, 0)))) (.br (x1) (.leaf (some ((bif i64.wrap (y - 4) == 0 then 19 else bif i64.wrap (y - 4) == ↑(0 + 1) then 20 else bif i64.wrap (y - 4) == ↑(0 + 1 + 1) then 21 else 22, 1, 0, 0, 0, 0, 0, 0)))) (.leaf none))))))) (.leaf none))) (.leaf none)))
def rOlow (y : Int) (z : Int) (p : Int) (q : Int) : QT4 := getO ZFw.dflt (ZEa y z p q).val
def ZHA (y : Int) (z : Int) (p : Int) (q : Int) : Bool := okB (ZEa y z p q).val
abbrev ZCj : Rs := Rs.one (Sh.agg (R.pair (R.int i64) (R.pair (R.int i64) (R.pair (R.int i64) (R.pair (R.int i64) (R.pair (R.int i64) (R.pair (R.int i64) (R.pair (R.int i64) (R.int i64)))))))))
def Zyq (y : Int) (z : Int) (p : Int) (q : Int) : RT (Option TI) :=
 .br (z == 0) (.leaf (some ((26, 1, 0, 0, 0, 0, y, 0)))) (.br (z == 1) (.br (q == 0) (.leaf (some ((31, 1, 0, 0, p, 0, 0, 0)))) (.br (y == 5) (.leaf (some ((28, 1, 0, 0, 0, 0, 0, 0)))) (.br (y == 7) (.leaf (some ((29, 1, 0, 0, 0, 0, 0, 0)))) (.leaf (some ((26, 1, 0, 0, 0, 0, 11, 0))))))) (.br (z == 2 || (!z == 3 || ((bif y == 0 then y == 0 else y == 1) || (y == 2 || (y == 3 || decide (0 ≤ i64.wrap (y - 4) ∧ i64.wrap (y - 4) < 4)))))) (.br (z == 2) (.leaf (some ((24, 3, 0, 0, 0, 0, y, 0)))) (.br (z == 3) (.br (bif y == 0 then y == 0 else y == 1) (.leaf (some ((24, 3, 0, 0, 0, 0, 11, 0)))) (.br (y == 2) (.leaf (some ((34, 2, 0, 0, 0, 0, 0, 0)))) (.br (y == 3) (.leaf (some ((33, 2, 0, 0, 0, 0, 0, 0)))) (.leaf (some ((bif i64.wrap (y - 4) == 0 then 32 else bif i64.wrap (y - 4) == ↑(0 + 1) then 11 else bif i64.wrap (y - 4) == ↑(0 + 1 + 1) then 36 else 35, 1, 0, 0, 0, 0, 0, 0))))))) (.br (z == 4) (.leaf (some ((25, 3, 0, 0, 0, 0, y, 0)))) (.br (z == 5) (.br (q == 0) (.leaf (some ((30, 1, 0, 0, p, 0, 0, 0)))) (.leaf (some ((25, 3, 0, 0, 0, 0, 11, 0))))) (.br (z == 6) (.leaf (some ((13, 2, 0, 0, 0, y, 0, 0)))) (.leaf (some ((27, 1, 0, 0, 0, 0, 0, y))))))))) (.leaf none)))
def ZHB (y : Int) (z : Int) (p : Int) (q : Int) : QT4 := getO ZCj.dflt (Zyq y z p q).val
def ZFx (y : Int) (z : Int) (p : Int) (q : Int) : Bool := okB (Zyq y z p q).val
abbrev ZyE : Rs := Rs.one (Sh.agg (R.pair (R.int i64) (R.pair (R.int i64) (R.pair (R.int i64) (R.pair (R.int i64) (R.pair (R.int i64) (R.pair (R.int i64) (R.pair (R.int i64) (R.int i64)))))))))
def ZeF (chip : Int) (op : Int) : RT (Option TI) :=
 .br ((ZtE op).2 && rOn chip) (.leaf (some (ZtE op).1)) (.br (!shrI u8 op 6 == 0 || ZHA (i64.wrap (andI u8 (shrI u8 op 3) 7)) (i64.wrap (andI u8 op 7)) (shrI i64 (i64.wrap (andI u8 (shrI u8 op 3) 7)) 1) (andI i64 (i64.wrap (andI u8 (shrI u8 op 3) 7)) 1)) (.br (shrI u8 op 6 == 0) (.leaf (some (rOlow (i64.wrap (andI u8 (shrI u8 op 3) 7)) (i64.wrap (andI u8 op 7)) (shrI i64 (i64.wrap (andI u8 (shrI u8 op 3) 7)) 1) (andI i64 (i64.wrap (andI u8 (shrI u8 op 3) 7)) 1)))) (.br (shrI u8 op 6 == 1) (.br (op == 118) (.leaf (some ((37, 1, 0, 0, 0, 0, 0, 0)))) (.leaf (some ((2, 1, i64.wrap (andI u8 (shrI u8 op 3) 7), i64.wrap (andI u8 op 7), 0, 0, 0, 0))))) (.br (shrI u8 op 6 == 2) (.leaf (some ((12, 1, 0, i64.wrap (andI u8 op 7), 0, i64.wrap (andI u8 (shrI u8 op 3) 7), 0, 0)))) (.br (ZFx (i64.wrap (andI u8 (shrI u8 op 3) 7)) (i64.wrap (andI u8 op 7)) (shrI i64 (i64.wrap (andI u8 (shrI u8 op 3) 7)) 1) (andI i64 (i64.wrap (andI u8 (shrI u8 op 3) 7)) 1)) (.leaf (some (ZHB (i64.wrap (andI u8 (shrI u8 op 3) 7)) (i64.wrap (andI u8 op 7)) (shrI i64 (i64.wrap (andI u8 (shrI u8 op 3) 7)) 1) (andI i64 (i64.wrap (andI u8 (shrI u8 op 3) 7)) 1)))) (.leaf none))))) (.leaf none))
def Zb (chip : Int) (op : Int) : QT4 := getO ZyE.dflt (ZeF chip op).val
def Zl8 (chip : Int) (op : Int) : Bool := okB (ZeF chip op).val
theorem Zpt (b : Int) (h : inR .u8 b) : ZhP b = true ∧ Zmy b = Zl1 b := by
 have h1 := Zgi (fun b => ZhP b && (Zmy b == Zl1 b)) (by kernel_rfl) b h
 simpa using h1
theorem Zp1 (a b c : Bool) : pMaj a b c = rMaj a b c := by cases a <;> cases b <;> cases c <;> rfl
theorem ZEB (a : Bool) : pOne a = rOne a := by cases a <;> rfl
theorem ZxW (a b : Int) (c : Bool) : pSum a b c = rSum a b c := by
 simp only [pSum, ZFL, rSum, ZFq, RT.val, Bool.cond_self, ZiG, ZhM, Zc3, ZlY, ZEB]
theorem Zs7 (a b : Int) (c : Bool) : Zfe a b c = ZbG a b c := by
 have h1 := ZIB a
 have h2 := ZIB b
 have e : IntKind.wrap .i64 (IntKind.wrap .i64 (IntKind.wrap .i64 (IntKind.wrap .i64 (andI .u8 a 15) + 15) - IntKind.wrap .i64 (andI .u8 b 15)) + 1) = IntKind.wrap .i64 (IntKind.wrap .i64 (IntKind.wrap .i64 (andI .u8 a 15) + IntKind.wrap .i64 (IntKind.wrap .u8 (15 - andI .u8 b 15))) + 1) := by
  rw [ZEZ]
  rw [wrap_i64 (andI .u8 a 15) (by omega) (by omega), wrap_i64 (andI .u8 b 15) (by omega) (by omega), wrap_i64 ((15 - andI .u8 b 15) % 256) (by omega) (by omega), wrap_i64 (andI .u8 a 15 + 15) (by omega) (by omega)]
  congr 1; rw [wrap_i64 _ (by omega) (by omega), wrap_i64 _ (by omega) (by omega)]; omega
 simp only [Zfe, Zz6, ZbG, ZyD, RT.val, Bool.cond_self, ZiG, ZhM, Zc3, ZlY, ZEB, e]
theorem ZnN (a b : Int) : ZzG a b = ZaH a b := rfl
theorem ZBN (b : Bool) (n : Int) (h : 0 ≤ n) : Zc4 b n = true ∧ pBit b n = bif b then shlI .u8 1 n else 0 := by
 cases b <;> simp [Zc4, pBit, ZC6, RT.val, h, okB, getO]
theorem Zd3 (b : Bool) (n : Int) (h : 0 ≤ n) : ZcD b n = true ∧ rBit b n = bif b then shlI .u8 1 n else 0 := by
 cases b <;> simp [ZcD, rBit, ZFC, RT.val, h, okB, getO]
theorem Zbg (chip : Int) : rOn chip = (chip == 2) := rfl
theorem ZHT (chip : Int) (f) : Zum chip f = true := by
 cases h : chip == 2 <;> simp [Zum, ZpE, RT.val, ZBN, okB, h]
theorem ZFl (chip : Int) (f) : Zis chip f = true := by
 cases h : chip == 2 <;> simp [Zis, ZtP, RT.val, Zd3, Zbg, okB, h]
theorem ZFK (chip : Int) (f) : ZCO chip f = Zhs chip f := by
 simp only [ZCO, ZpE, Zhs, ZtP, RT.val, ZBN, Zd3, Zbg]; cases chip == 2 <;> simp [ZBN, Zd3, getO]
theorem of_C (r : Int) (h : inR .u8 r) : pOfC r = true := by simp [pOfC, pOfT, RT.val, Zpt r h, okB]
theorem ZpQ (r : Int) (h : inR .u8 r) : pOf r = rOf r := by simp [pOf, pOfT, rOf, rOfT, RT.val, Zpt r h, getO]
theorem get_C (r) (n : Int) : ZyA r n = true := by
 have := and7 n
 have h : decide (0 ≤ andI .i64 n 7 ∧ andI .i64 n 7 < 8) = true := by simp; omega
 simp only [ZyA, ZCo, RT.val, h, cond_true, okB]
theorem ZBv {m : Int} (h : 0 ≤ m ∧ m ≤ 7) : m = 0 ∨ m = 1 ∨ m = 2 ∨ m = 3 ∨ m = 4 ∨ m = 5 ∨ m = 6 ∨ m = 7 := by omega
theorem Zy0 (r) (n : Int) : pGet r n = rGet r n := by
 have h7 := and7 n
 have h : decide (0 ≤ andI .i64 n 7 ∧ andI .i64 n 7 < 8) = true := by simp; omega
 simp only [pGet, ZF6, rGet, ZCo, RT.val, h, cond_true, getO]
 generalize andI .i64 n 7 = m at *
 rcases ZBv h7 with rfl | rfl | rfl | rfl | rfl | rfl | rfl | rfl <;> rfl
theorem ZyS (r) (n v : Int) : pSet r n v = rSet r n v := by
 have h7 := and7 n
 simp only [pSet, ZFO, rSet, ZHu, RT.val, cond_true, getO]
 generalize andI .i64 n 7 = m at *
 rcases ZBv h7 with rfl | rfl | rfl | rfl | rfl | rfl | rfl | rfl <;> rfl
theorem ZCv (r) (n : Int) : ZFV r n = ZaN r n := by
 simp only [ZFV, Zzm, ZaN, ZD9, RT.val, Zy0, get_C, ZnN]
 cases andI .i64 n 3 == 3 <;> simp [okB, getO]
theorem Zrc (r) (n v : Int) : Zms r n v = ZL r n v := by
 simp only [Zms, ZiH, ZL, ZoA, RT.val, ZyS]
theorem ZyW (chip : Int) (r) : ZFX chip r = true ∧ pPSW chip r = rPSW chip r := by
 simp [ZFX, pPSW, ZCP, rPSW, ZFv, RT.val, ZHT, ZFl, ZFK, ZnN, okB, getO]
theorem Zxn (chip : Int) (b : Int) : Zmq chip b = Zd5 chip b := by
 simp only [Zmq, Zmp, Zd5, ZtD, RT.val, Zbg]
theorem ZvS (chip : Int) (r) (v : Int) : Zrl chip r v = Zir chip r v := by
 simp only [Zrl, Zmt, Zir, ZtF, RT.val, Zxn]
theorem ZDA (c : Int) (f) : ZzM c f = Zde c f := by
 simp only [ZzM, Zsc, Zde, Zyy, RT.val]
 by_cases h : 0 ≤ c ∧ c ≤ 11
 ·have : c = 0 ∨ c = 1 ∨ c = 2 ∨ c = 3 ∨ c = 4 ∨ c = 5 ∨ c = 6 ∨ c = 7 ∨ c = 8 ∨ c = 9 ∨ c = 10 ∨ c = 11 := by omega
  rcases this with rfl | rfl | rfl | rfl | rfl | rfl | rfl | rfl | rfl | rfl | rfl | rfl <;> simp
 ·have e : ∀ k : Int, 0 ≤ k → k ≤ 11 → (c == k) = false := fun k h1 h2 => by simp; omega
  simp [e]
theorem Zon (a b : Int) (c : Bool) : inR .u8 (rSum a b c).1 := by
 simp only [rSum, ZFq, RT.val, Bool.cond_self]; exact ZaB _ _
theorem Zkl (a b : Int) (c : Bool) : inR .u8 (ZbG a b c).1 := by
 simp only [ZbG, ZyD, RT.val, Bool.cond_self]; exact ZaB _ _
theorem Zg0 (a b : Int) : inR .u8 (andI .u8 a b) ∧ inR .u8 (orI .u8 a b) ∧ inR .u8 (xorI .u8 a b) := ZeJ _ _ _
theorem Zox (chip v r : Int) (half over x : Bool) (f) (h : inR .u8 r) : ZfR chip v r half over x f = true ∧
  ZiM chip v r half over x f = Zl2 chip ((rOf r).1, (rOf r).2.1, (rOf r).2.2.1, half, (rOf r).2.2.2.2.1, (rOf r).2.2.2.2.2.1, f.2.2.2.2.2.2) (rMaj (decide (v ≥ 128)) x (decide (r ≥ 128))) over := by
 cases hc : chip == 2 <;> simp [ZfR, ZiM, ZhN, Zl2, ZoC, RT.val, of_C r h, ZpQ r h, okB, getO, Zbg, hc, Zp1, rOf, rOfT]
theorem ZyZ (chip v : Int) (f) : ZF4 chip v f = true ∧ pInr chip v f = rInr chip v f := by
 have h := Zox chip v (rSum v 1 false).1 (rSum v 1 false).2.2.1 (rSum v 1 false).2.2.2 false f (Zon _ _ _)
 simp only [ZF4, pInr, ZCU, rInr, ZHF, RT.val, ZxW, h.1, h.2, cond_true, okB, getO, and_self]
theorem Zy2 (chip v : Int) (f) : ZGf chip v f = true ∧ pDcr chip v f = rDcr chip v f := by
 have h := Zox chip v (ZbG v 1 false).1 (ZbG v 1 false).2.2.1 (ZbG v 1 false).2.2.2 true f (Zkl _ _ _)
 simp only [ZGf, pDcr, ZC2, rDcr, ZHJ, RT.val, Zs7, h.1, h.2, cond_true, okB, getO, and_self]
theorem ZFF (chip v : Int) (f) : pInx chip v f = rInx chip v f := by
 simp only [pInx, ZF2, rInx, ZHE, RT.val, Zbg]
theorem ZFI (chip v : Int) (f) : pDcx chip v f = rDcx chip v f := by
 simp only [pDcx, ZGd, rDcx, ZHI, RT.val, Zbg]
theorem Zy3 (chip a : Int) (f) : ZGj chip a f = true ∧ pDaa chip a f = rDaa chip a f := by
 have h := fun x => of_C _ (Zon a x false)
 have h2 := fun x => ZpQ _ (Zon a x false)
 cases hc : chip == 2 <;> simp [ZGj, pDaa, ZC4, rDaa, ZHL, Zl2, ZoC, RT.val, ZxW, h, h2, okB, getO, Zbg, hc, Zp1, rOf, rOfT]
theorem Zuf (a b : Int) : Zz3 a b = true ∧ ZF8 a b = ZyC a b := by
 have h := fun x y z => of_C _ (Zkl x y z)
 have h2 := fun x y z => ZpQ _ (Zkl x y z)
 simp [Zz3, ZF8, ZuE, ZyC, ZEb, RT.val, Zs7, h, h2, okB, getO, Zp1, ZnN, rOf, rOfT, Bool.cond_self]
theorem ZCA (v : Int) : ZH6 v = ZCs v := rfl
theorem ZEJ (c : Bool) : pLow c = bif c then 1 else 0 := by cases c <;> rfl
theorem ZyT (op a : Int) (c : Bool) : ZFQ op a c = true ∧ pRot op a c = rRot op a c := by
 have h3 := and3 op
 simp only [ZFQ, pRot, ZCH, rRot, ZHv, RT.val, ZEJ, (Zd3 c 0 (by decide)).1, (Zd3 c 0 (by decide)).2, (Zd3 c 7 (by decide)).1, (Zd3 c 7 (by decide)).2]
 generalize andI .i64 op 3 = m at *
 have : m = 0 ∨ m = 1 ∨ m = 2 ∨ m = 3 := by omega
 rcases this with rfl | rfl | rfl | rfl <;> cases c <;> exact ⟨rfl, rfl⟩
theorem ZCu (v : Int) (c : Bool) (h : inR .u16 v) : ZFU v c = Zym v c := by
 have hb := Zd3 c 0 (by decide)
 have e : IntKind.wrap .u16 (bif c then 1 else 0) = IntKind.wrap .u16 (bif c then shlI .u8 1 0 else 0) := by cases c <;> rfl
 have hr : ∀ x, inR .u16 (orI .u16 x (IntKind.wrap .u16 (bif c then shlI .u8 1 0 else 0))) := fun x => (ZeJ _ _ _).2.1
 simp only [ZFU, Zzk, Zym, ZD8, RT.val, ZEJ, hb.1, hb.2, cond_true, getO, e]
 rw [Zls _ (ZeJ _ _ _).2.2, ZxU _ _ (hr _) h, Zte _ (hr _), Zte _ h]
 cases tb (orI .u16 (shlI .u16 v 1) (IntKind.wrap .u16 (bif c then shlI .u8 1 0 else 0))) <;> cases tb v <;> rfl
theorem ZFJ (chip a b : Int) (f) (ha : inR .u16 a) (hb : inR .u16 b) : pDad chip a b f = rDad chip a b f := by
 have hr : inR .u16 (IntKind.wrap .u16 (a + b)) := ZaB _ _
 have ha' := Zfj.1 ha
 have hb' := Zfj.1 hb
 simp only [pDad, ZGh, rDad, ZHK, RT.val, Zbg]
 rw [Zls _ (ZeJ _ _ _).1, ZD2 _ _ (ZeJ _ _ _).2.2 (ZeJ _ _ _).2.2, ZxU _ _ ha hr, ZxU _ _ hb hr]
 have e1 : decide (IntKind.wrap .u16 (a + b) < a) = decide (IntKind.wrap .i64 (IntKind.wrap .i64 a + IntKind.wrap .i64 b) > 65535) := by
  rw [ZaA, wrap_i64 a (by omega) (by omega), wrap_i64 b (by omega) (by omega), wrap_i64 (a + b) (by omega) (by omega)]
  simp only [decide_eq_decide]; omega
 have e2 : (((tb a) ^^ (tb (IntKind.wrap .u16 (a + b)))) && ((tb b) ^^ (tb (IntKind.wrap .u16 (a + b))))) = (decide (IntKind.wrap .i64 (IntKind.wrap .i64 (IntKind.wrap .i16 a) + IntKind.wrap .i64 (IntKind.wrap .i16 b)) < -32768) || decide (IntKind.wrap .i64 (IntKind.wrap .i64 (IntKind.wrap .i16 a) + IntKind.wrap .i64 (IntKind.wrap .i16 b)) > 32767)) := by
  have ia := Ztg a
  have ib := Ztg b
  have hia : -32768 ≤ IntKind.wrap .i16 a ∧ IntKind.wrap .i16 a ≤ 32767 := by rw [ia]; split <;> omega
  have hib : -32768 ≤ IntKind.wrap .i16 b ∧ IntKind.wrap .i16 b ≤ 32767 := by rw [ib]; split <;> omega
  rw [wrap_i64 (IntKind.wrap .i16 a) (by omega) (by omega), wrap_i64 (IntKind.wrap .i16 b) (by omega) (by omega), wrap_i64 (IntKind.wrap .i16 a + IntKind.wrap .i16 b) (by omega) (by omega)]
  rw [ia, ib, ZaA]
  unfold tb
  by_cases h1 : a ≥ 32768 <;> by_cases h2 : b ≥ 32768 <;> by_cases h3 : (a + b) % 65536 ≥ 32768 <;> simp [h1, h2, h3] <;> (try split) <;> (try split) <;> omega
 rw [e1, e2]
theorem ZyU (c l) : ZFS c l = true ∧ pRim c l = rRim c l ∧ ZHy c l = true := by
 have h : ∀ b n, 0 ≤ n → ZbJ b n = true ∧ ZpB b n = bif b then shlI .u8 1 n else 0 := fun b n h => by
  cases b <;> simp [ZbJ, ZpB, Zui, RT.val, h, okB, getO]
 have h3 : ∀ b, Zac b 3 = true ∧ ZeX b 3 = bif b then shlI .u8 1 3 else 0 := fun b => by cases b <;> exact ⟨rfl, rfl⟩
 have h4 : ∀ b, Zac b 4 = true ∧ ZeX b 4 = bif b then shlI .u8 1 4 else 0 := fun b => by cases b <;> exact ⟨rfl, rfl⟩
 have h5 : ∀ b, Zac b 5 = true ∧ ZeX b 5 = bif b then shlI .u8 1 5 else 0 := fun b => by cases b <;> exact ⟨rfl, rfl⟩
 have h6 : ∀ b, Zac b 6 = true ∧ ZeX b 6 = bif b then shlI .u8 1 6 else 0 := fun b => by cases b <;> exact ⟨rfl, rfl⟩
 have h7 : ∀ b, Zac b 7 = true ∧ ZeX b 7 = bif b then shlI .u8 1 7 else 0 := fun b => by cases b <;> exact ⟨rfl, rfl⟩
 simp [ZFS, pRim, ZCJ, ZHy, rRim, ZCe, RT.val, h, h3, h4, h5, h6, h7, okB, getO]
theorem ZFE (c) (a : Int) : pSim c a = rSim c a := by
 simp only [pSim, ZFN, rSim, ZFr, RT.val]
theorem ZvO (s : Int) : Zrh s = Zq s := by
 simp only [Zrh, Zmo, Zq, ZtC, RT.val]
theorem ZyX (chip op a b : Int) : ZmK chip op a b = true ∧ ∀ f, (andI .i64 op 7 = op) → 4 ≤ op → op ≤ 6 → Zur chip op a b = rDo chip op a b f := by
 have h := fun x y => of_C _ (Zg0 x y).1
 have h' := fun x y => of_C _ (Zg0 x y).2.1
 have h'' := fun x y => of_C _ (Zg0 x y).2.2
 have g := fun x y => ZpQ _ (Zg0 x y).1
 have g' := fun x y => ZpQ _ (Zg0 x y).2.1
 have g'' := fun x y => ZpQ _ (Zg0 x y).2.2
 have h0 := of_C 0 (by rw [Zj5]; omega)
 constructor
 ·cases h4 : op == 4 <;> cases h5 : op == 5 <;> cases h6 : op == 6 <;> simp [ZmK, Zjs, RT.val, h, h', h'', h0, okB, h4, h5, h6]
 ·intro f e h4 h6
  have : op = 4 ∨ op = 5 ∨ op = 6 := by omega
  rcases this with rfl | rfl | rfl <;> cases hc : chip == 2 <;> simp [Zur, Zjs, rDo, rDoT, RT.val, h, h', h'', g, g', g'', getO, e, Zbg, hc, Zl2, ZoC, rOf, rOfT, Zp1]
theorem ZEh (chip op a b : Int) (f) : pDoC chip op a b f = true ∧ pDo chip op a b f = rDo chip op a b f := by
 have h7 := and7 op
 have hs := fun x => of_C _ (Zon a b x)
 have hs2 := fun x => ZpQ _ (Zon a b x)
 have hd := fun x => of_C _ (Zkl a b x)
 have hd2 := fun x => ZpQ _ (Zkl a b x)
 have hl := ZyX chip (andI .i64 op 7) a b
 have hlt : decide (b < 128) = !decide (128 ≤ b) := by
  by_cases h : b < 128
  ·have : ¬ 128 ≤ b := by omega
   simp [h, this]
  ·have : 128 ≤ b := by omega
   simp [h, this]
 have hr : rDo chip (andI .i64 op 7) a b f = rDo chip op a b f := by
  have : andI .i64 (andI .i64 op 7) 7 = andI .i64 op 7 := by
   generalize andI .i64 op 7 = m at *
   rcases ZBv h7 with rfl | rfl | rfl | rfl | rfl | rfl | rfl | rfl <;> rfl
  simp only [rDo, rDoT, this]
 have he : andI .i64 (andI .i64 op 7) 7 = andI .i64 op 7 := by
  generalize andI .i64 op 7 = m at *
  rcases ZBv h7 with rfl | rfl | rfl | rfl | rfl | rfl | rfl | rfl <;> rfl
 rw [← hr]
 have hl2 := hl.2 f he
 have hl1 := hl.1
 clear hl hr
 simp only [pDoC, pDo, pDoT, RT.val]
 generalize andI .i64 op 7 = m at *
 rcases ZBv h7 with rfl | rfl | rfl | rfl | rfl | rfl | rfl | rfl
 case inr.inr.inr.inr.inl => simp [hl1, hl2, okB, getO]
 case inr.inr.inr.inr.inr.inl => simp [hl1, hl2, okB, getO]
 case inr.inr.inr.inr.inr.inr.inl => simp [hl1, hl2, okB, getO]
 all_goals cases hc : chip == 2 <;> simp [rDo, rDoT, RT.val, ZxW, Zs7, hs, hs2, hd, hd2, okB, getO, he, Zbg, hc, Zl2, ZoC, rOf, rOfT, Zp1, hlt]
theorem Zy1 (chip op : Int) (h : chip ≠ 2) : (Zdw chip op).val = (Zdw 0 op).val := by
 have h1 : (chip == 2) = false := by simpa using h
 have h0 : ((0 : Int) == 2) = false := rfl
 simp only [Zdw, RT.val, h1, h0]
theorem Zin (chip op : Int) (h : chip ≠ 2) : (ZeF chip op).val = (ZeF 0 op).val := by
 have h1 : rOn chip = false := by simpa [Zbg] using h
 have h0 : rOn 0 = false := rfl
 simp only [ZeF, RT.val, h1, h0]
def decT (chip op : Int) : Bool := okB (Zdw chip op).val && okB (ZeF chip op).val && (Zjv chip op == Zb chip op)
theorem dec_ok (chip op : Int) (h : inR .u8 op) : ZhR chip op = true ∧ Zjv chip op = Zb chip op ∧ Zl8 chip op = true := by
 have fin : ∀ c, decT c op = true → ZhR c op = true ∧ Zjv c op = Zb c op ∧ Zl8 c op = true := by
  intro c hc
  simp only [decT, Bool.and_eq_true, beq_iff_eq] at hc
  exact ⟨hc.1.1, hc.2, hc.1.2⟩
 by_cases hc : chip = 2
 ·subst hc; exact fin 2 (Zgi (decT 2) (by kernel_rfl) op h)
 ·have := fin 0 (Zgi (decT 0) (by kernel_rfl) op h)
  unfold ZhR Zjv Zb Zl8 at this ⊢
  rw [Zy1 chip op hc, Zin chip op hc]; exact this
def ZmL : Entry := Zm Zsa Zsb (fun _ => none) (fun a => ZaH a.1 a.2)
theorem ZpH : Zc Tryz.prog 236 ZmL := ZhQ.tot (fun a h => by simp) (fun a h => ZnN _ _)
def ZEw : Entry := Zm ZzO ZzP (fun _ => none) (fun a => rGet a.1 a.2)
theorem ZCV : Zc Tryz.prog 287 ZEw := ZzN.tot (fun a h => by simp) (fun a h => Zy0 _ _)
def ZpA : Entry := Zm Zza Zzb (fun _ => none) (fun a => rSet a.1 a.2.1 a.2.2)
theorem Zuh : Zc Tryz.prog 268 ZpA := Zy9.tot (fun a h => by simp) (fun a h => ZyS _ _ _)
def Zzo : Entry := Zm Zrr Zrs (fun _ => none) (fun a => ZaN a.1 a.2)
theorem Zzn : Zc Tryz.prog 286 Zzo := ZCM.tot (fun a h => by simp) (fun a h => ZCv _ _)
def Za6 : Entry := Zm ZgC ZgD (fun _ => none) (fun a => ZL a.1 a.2.1 a.2.2)
theorem ZcT : Zc Tryz.prog 269 Za6 := Zrj.tot (fun a h => by simp) (fun a h => Zrc _ _ _)
def Zzr : Entry := Zm Zzq Zun (fun _ => none) (fun a => rPSW a.1 a.2)
theorem ZCQ : Zc Tryz.prog 290 Zzr := ZFW.tot (fun a h => by have h1 := (ZyW a.1 a.2).1; simp [h1]) (fun a h => (ZyW _ _).2)
def ZiK : Entry := Zm ZiI ZiJ (fun _ => none) (fun a => Zir a.1 a.2.1 a.2.2)
theorem Zrk : Zc Tryz.prog 281 ZiK := ZvY.tot (fun a h => by simp) (fun a h => ZvS _ _ _)
def ZGb : Entry := Zm ZF9 ZCZ (fun _ => none) (fun a => rDo a.1 a.2.1 a.2.2.1 a.2.2.2.1 a.2.2.2.2)
theorem ZGa : Zc Tryz.prog 271 ZGb := ZH3.tot (fun a h => by have h1 := (ZEh a.1 a.2.1 a.2.2.1 a.2.2.2.1 a.2.2.2.2).1; simp [h1]) (fun a h => (ZEh _ _ _ _ _).2)
def Zux : Entry := Zm ZzK Zuv (fun _ => none) (fun a => rInr a.1 a.2.1 a.2.2)
theorem Zuw : Zc Tryz.prog 273 Zux := ZF3.tot (fun a h => by have h1 := (ZyZ a.1 a.2.1 a.2.2).1; simp [h1]) (fun a h => (ZyZ _ _ _).2)
def ZuJ : Entry := Zm ZAc ZuH (fun _ => none) (fun a => rDcr a.1 a.2.1 a.2.2)
theorem ZuI : Zc Tryz.prog 274 ZuJ := ZGe.tot (fun a h => by have h1 := (Zy2 a.1 a.2.1 a.2.2).1; simp [h1]) (fun a h => (Zy2 _ _ _).2)
def ZzJ : Entry := Zm ZzH ZzI (fun _ => none) (fun a => rInx a.1 a.2.1 a.2.2)
theorem ZCT : Zc Tryz.prog 275 ZzJ := ZF1.tot (fun a h => by simp) (fun a h => ZFF _ _ _)
def ZAb : Entry := Zm Zz9 ZAa (fun _ => none) (fun a => rDcx a.1 a.2.1 a.2.2)
theorem ZC1 : Zc Tryz.prog 276 ZAb := ZGc.tot (fun a h => by simp) (fun a h => ZFI _ _ _)
def ZAh : Entry := Zm ZAg ZuK (fun _ => none) (fun a => rDaa a.1 a.2.1 a.2.2)
theorem ZC5 : Zc Tryz.prog 278 ZAh := ZGi.tot (fun a h => by have h1 := (Zy3 a.1 a.2.1 a.2.2).1; simp [h1]) (fun a h => (Zy3 _ _ _).2)
def ZAf : Entry := Zm ZAd ZAe (fun _ => none) (fun a => rDad a.1 a.2.1 a.2.2.1 a.2.2.2)
theorem ZC3 : Zc Tryz.prog 277 ZAf := ZGg.tot (fun a h => by simp) (fun a h => ZFJ _ _ _ _ h.2.1 h.2.2.1)
def Zsq : Entry := Zm Zsp Znq (fun _ => none) (fun a => ZyC a.1 a.2)
theorem Zz4 : Zc Tryz.prog 283 Zsq := ZCY.tot (fun a h => by have h1 := (Zuf a.1 a.2).1; simp [h1]) (fun a h => (Zuf _ _).2)
def Zsu : Entry := Zm Zss Zst (fun _ => none) (fun a => ZCs a)
theorem ZAj : Zc Tryz.prog 284 Zsu := ZC7.tot (fun a h => by simp) (fun a h => ZCA _)
def Zzf : Entry := Zm Zze Zuj (fun _ => none) (fun a => rRot a.1 a.2.1 a.2.2)
theorem ZCI : Zc Tryz.prog 279 Zzf := ZFP.tot (fun a h => by have h1 := (ZyT a.1 a.2.1 a.2.2).1; simp [h1]) (fun a h => (ZyT _ _ _).2)
def Zrq : Entry := Zm Zro Zrp (fun _ => none) (fun a => Zym a.1 a.2)
theorem Zzl : Zc Tryz.prog 285 Zrq := ZCL.tot (fun a h => by simp) (fun a h => ZCu _ _ h.1)
def Zzh : Entry := Zm Zzg Zuk (fun _ => none) (fun a => rRim a.1 a.2)
theorem ZCK : Zc Tryz.prog 227 Zzh := ZFR.tot (fun a h => by have h1 := (ZyU a.1 a.2).1; simp [h1]) (fun a h => (ZyU _ _).2.1)
def Zy8 : Entry := Zm Zy6 Zy7 (fun _ => none) (fun a => rSim a.1 a.2)
theorem ZCE : Zc Tryz.prog 228 Zy8 := ZFM.tot (fun a h => by simp) (fun a h => ZFE _ _)
def Zuy : Entry := Zm ZmM ZmN (fun _ => none) (fun a => Zde a.1 a.2)
theorem Zwc : Zc Tryz.prog 322 Zuy := ZzL.tot (fun a h => by simp) (fun a h => ZDA _ _)
def Zpv : Entry := Zm ZiE ZiF (fun _ => none) (fun a => Zq a)
theorem Zrg : Zc Tryz.prog 177 Zpv := ZvW.tot (fun a h => by simp) (fun a h => ZvO _)
def Zz8 : Entry := Zm ZfT ZfU (fun _ => none) (fun a => Zb a.1 a.2)
theorem Zsr : Zc Tryz.prog 182 Zz8 := ZwQ.tot (fun a h => by have h1 := (dec_ok a.1 a.2 h.2).1; simp [h1]) (fun a h => (dec_ok a.1 a.2 h.2).2.1)
abbrev ZIq : R := R.pair (.int .i64) (R.pair (.int .i64) (R.pair (.int .i64) (R.pair (.int .i64) (R.pair (.int .i64) (R.pair (.int .i64) (.int .i64))))))
def ZpK (k : Int) : Entry := pinE ZfT ZIq (fun a => Zb a.1 a.2) k
theorem ZuG (k : Int) : Zc Tryz.prog 182 (ZpK k) := ZFG Zsr k
def pcOf (c : TC) : Int := c.2.1.2.2.2.2.2.2.2.2.2
def spOf (c : TC) : Int := c.2.1.2.2.2.2.2.2.2.2.1
def rgx (r : TR) (f : TF) (sp pc : Int) : TR := (r.1, r.2.1, r.2.2.1, r.2.2.2.1, r.2.2.2.2.1, r.2.2.2.2.2.1, r.2.2.2.2.2.2.1, f, sp, pc)
def fin3 (g : List Int) (l : List TY) : RT (Option (TY × Bool)) := .br (decide (iN (List.length g) ≥ iN (List.length l))) (.leaf (some (((0, 0, 0, 0), false)))) (.br (Ze (iN (List.length g)) (List.length l)) (.leaf (some ((R.get RY l (iN (List.length g)), true)))) (.leaf none))
end
end Go.Proofs.YtghoimllhpjkjaaGreat
