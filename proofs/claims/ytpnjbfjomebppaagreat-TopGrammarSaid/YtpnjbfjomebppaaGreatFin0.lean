import Derived.Test.YtpnjbfjomebppaaGreatPinsEq
open Go.Proofs.Tryz (prog)
open Go.IntKind (u8 u16 i64)
set_option linter.unusedSimpArgs false
open Go Go.S3 Go.Proofs
set_option linter.unusedVariables false
set_option maxRecDepth 100000
namespace Go.Proofs.YtpnjbfjomebppaaGreat
noncomputable section
def ZdK (k:Int):En:=.tree (Zz (envX prog [(154,Zxp k),(213,qAtE)] [] 255 8) Tryz.f150)
theorem Zf3 (k:Int):Zb prog 150 (ZdK k):=Z6 (P:=prog) (n:=255) (k:=8) (l:=[(154,Zxp k),(213,qAtE)]) (ol:=[]) ⟨(ZER k),ZiR,Tv⟩ Tryz.func150 rfl (by kernel_rfl) Tryz.call150 trivial
def Zcn:En:=.tree (Zz (envX prog [(213,qAtE),(216,ZwL),(284,Zna),(290,Zxa),(291,Zce)] [] 2597417327555236063515274458956831 8) Tryz.f228)
theorem Zf4:Zb prog 228 Zcn:=Z6 ⟨ZiR,Zsw,Zsx,ZEn,ZeJ,Tv⟩ Tryz.func228 rfl (by kernel_rfl) Tryz.call228 trivial
def ZbB:En:=.tree (Zz (envX prog [(213,qAtE),(215,Zgp),(216,ZwL),(282,ZEH),(283,ZEU),(290,Zxa),(291,Zce),(292,ZVO),(293,Zm9),(294,ZMk),(295,ZMO),(296,ZMS),(297,ZMU),(298,ZLC)] [] 7069140681974987581262622498806463579024171163532525608263727578473562367 8) Tryz.f229)
theorem ZeV:Zb prog 229 ZbB:=Z6 ⟨ZiR,ZiL,Zsw,ZEG,ZET,ZEn,ZeJ,ZVN,ZzI,ZQ9,ZRi,ZRk,ZRm,ZQV,Tv⟩ Tryz.func229 rfl (by kernel_rfl) Tryz.call229 trivial
def ZbA:En:=.tree (Zz (envX prog [(215,Zgp),(284,Zna),(286,Zh0),(291,Zce),(299,ZnH)] [] 1300629477622019213679053869679119 8) Tryz.f230)
theorem ZeU:Zb prog 230 ZbA:=Z6 ⟨ZiL,Zsx,Zm8,ZeJ,ZAj,Tv⟩ Tryz.func230 rfl (by kernel_rfl) Tryz.call230 trivial
def Zb2:En:=.tree (Zz (envX prog [(213,qAtE),(215,Zgp),(291,Zce),(301,ZBx),(302,ZBB),(303,ZAr)] [] 19808249554387950831669350527 8) Tryz.f233)
theorem ZfK:Zb prog 233 Zb2:=Z6 ⟨ZiR,ZiL,ZeJ,ZMI,ZM1,ZLM,Tv⟩ Tryz.func233 rfl (by kernel_rfl) Tryz.call233 trivial
def Zc7:En:=.tree (Zz (envX prog [(227,ZiQ),(228,Zcn),(229,ZbB),(230,ZbA),(231,ZLE),(232,ZLu),(233,Zb2)] [] 1299342484808491477133836286951679 8) Tryz.f156)
theorem Zfg:Zb prog 156 Zc7:=Z6 ⟨ZqR,Zf4,ZeV,ZeU,ZQX,ZQR,ZfK,Tv⟩ Tryz.func156 rfl (by kernel_rfl) Tryz.call156 trivial
abbrev ZQ:List Sh:=[Sh.agg Zat,So Kc,So (R.sl Ka),Sh.agg (R.Pq R.bool (R.Pq R.bool rcF7))]
def ZVK (k:Int):List (FuncId×En):=[(150,ZdK k),(151,Zkg),(155,Zw3),(156,Zc7)]
theorem ZRd (k:Int):ZdW prog (ZVK k):=⟨(Zf3 k),Zk3,ZAc,Zfg,Tv⟩
abbrev EV0 (k:Int) (a:HL ZQ):=ZgM (envX prog (ZVK k) [] 1023 8) Tryz.f85 ZQ ZLt a
