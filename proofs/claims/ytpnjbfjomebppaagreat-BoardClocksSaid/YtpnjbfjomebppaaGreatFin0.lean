import Derived.Test.YtpnjbfjomebppaaGreatPinsEq
open Go.Proofs.Tryz (prog)
open Go.IntKind (u8 u16 i64)
set_option linter.unusedSimpArgs false
open Go Go.S3 Go.Proofs
set_option linter.unusedVariables false
set_option maxRecDepth 100000
namespace Go.Proofs.YtpnjbfjomebppaaGreat
noncomputable section
def Zec (k:Int):En:=.tree (Zq (envX prog [(154,ZBl k),(213,qAtE)] [] 255 8) Tryz.f150)
theorem ZgO (k:Int):Za prog 150 (Zec k):=ZD (P:=prog) (n:=255) (k:=8) (l:=[(154,ZBl k),(213,qAtE)]) (ol:=[]) ⟨(ZKJ k),ZjL,Tv⟩ Tryz.func150 rfl (by kernel_rfl) Tryz.call150 trivial
def ZcE:En:=.tree (Zq (envX prog [(213,qAtE),(216,ZAE),(284,Zpd),(290,ZA5),(291,Zcw)] [] 2597417327555236063515274458956831 8) Tryz.f228)
theorem ZgP:Za prog 228 ZcE:=ZD ⟨ZjL,Zwj,Zwk,ZKg,Zfq,Tv⟩ Tryz.func228 rfl (by kernel_rfl) Tryz.call228 trivial
def ZbT:En:=.tree (Zq (envX prog [(213,qAtE),(215,Zhk),(216,ZAE),(282,ZKy),(283,ZKM),(290,ZA5),(291,Zcw),(292,Z5e),(293,Zpc),(294,ZUR),(295,ZVk),(296,ZVo),(297,ZVq),(298,ZT8)] [] 7069140681974987581262622498806463579024171163532525608263727578473562367 8) Tryz.f229)
theorem ZfE:Za prog 229 ZbT:=ZD ⟨ZjL,ZjF,Zwj,ZKx,ZKL,ZKg,Zfq,Z5d,ZEZ,ZZQ,ZZY,ZZ0,ZZ2,ZZB,Tv⟩ Tryz.func229 rfl (by kernel_rfl) Tryz.call229 trivial
def ZbS:En:=.tree (Zq (envX prog [(215,Zhk),(284,Zpd),(286,ZiT),(291,Zcw),(299,ZpJ)] [] 1300629477622019213679053869679119 8) Tryz.f230)
theorem ZfD:Za prog 230 ZbS:=ZD ⟨ZjF,Zwk,Zpb,Zfq,ZFu,Tv⟩ Tryz.func230 rfl (by kernel_rfl) Tryz.call230 trivial
def Zcl:En:=.tree (Zq (envX prog [(213,qAtE),(215,Zhk),(291,Zcw),(301,ZGI),(302,ZGM),(303,ZFC)] [] 19808249554387950831669350527 8) Tryz.f233)
theorem Zgr:Za prog 233 Zcl:=ZD ⟨ZjL,ZjF,Zfq,ZVe,ZVx,ZUi,Tv⟩ Tryz.func233 rfl (by kernel_rfl) Tryz.call233 trivial
def Zdu:En:=.tree (Zq (envX prog [(227,ZjK),(228,ZcE),(229,ZbT),(230,ZbS),(231,ZUa),(232,ZT0),(233,Zcl)] [] 1299342484808491477133836286951679 8) Tryz.f156)
theorem Zf3:Za prog 156 Zdu:=ZD ⟨Zti,ZgP,ZfE,ZfD,ZZD,ZZx,Zgr,Tv⟩ Tryz.func156 rfl (by kernel_rfl) Tryz.call156 trivial
abbrev ZU:List Sh:=[Sh.agg Zu,So Kc,So (R.sl Ka),Sh.agg (R.Pq R.bool (R.Pq R.bool rcF7))]
def Z49 (k:Int):List (FuncId×En):=[(150,Zec k),(151,Zlh),(155,ZAY),(156,Zdu)]
theorem ZZU (k:Int):Zdp prog (Z49 k):=⟨(ZgO k),Zl6,ZFn,Zf3,Tv⟩
abbrev EV0 (k:Int) (a:HL ZU):=ZfF (envX prog (Z49 k) [] 1023 8) Tryz.f85 ZU ZTZ a
def ZbX:En:=.tree (Zq (envX prog [(243,Zif),(309,Zi0),(310,ZqY)] [] 4722654783631989407807 8) Tryz.f240)
theorem ZdK:Za prog 240 ZbX:=ZD ⟨Zly,Zq0,Zyg,Tv⟩ Tryz.func240 rfl (by kernel_rfl) Tryz.call240 trivial
def ZbW:En:=.tree (Zq (envX prog [(239,mAtE),(244,Zhe),(310,ZqY),(311,Zo5),(312,ZMs),(313,Zhc),(314,Zu6)] [] 89290093085330224515083647028849395745489151 8) Tryz.f241)
theorem ZdJ:Za prog 241 ZbW:=ZD ⟨ZBY,Zjz,Zyg,Zvy,ZDD,Zoe,ZMr,Tv⟩ Tryz.func241 rfl (by kernel_rfl) Tryz.call241 trivial
def ZbE:En:=.tree (Zq (envX prog [(239,mAtE),(244,Zhe),(311,Zo5),(312,ZMs),(313,Zhc),(315,rDoE),(316,Zha),(317,Z38),(318,Z4i),(319,Z4n),(320,Z4q),(321,ZRT),(322,ZSW),(323,ZTa),(324,ZDM)] [] 7068251030063838779883004342589958256918126813077978922614622863581249535 8) Tryz.f242)
theorem Zdh:Za prog 242 ZbE:=ZD ⟨ZBY,Zjz,Zvy,ZDD,Zoe,Z6X,Zod,Z36,Z4g,Z4l,Z4o,ZYH,ZY5,ZY9,ZR1,Tv⟩ Tryz.func242 rfl (by kernel_rfl) Tryz.call242 trivial
def Z4c (k:Int):List (FuncId×En):=[(236,Zh5),(237,ZIP),(238,ZSZ k),(239,mAtE),(240,ZbX),(241,ZbW),(242,ZbE),(243,Zif),(244,Zhe),(245,Z1J),(246,Z6J)]
theorem ZY4 (k:Int):Zdp prog (Z4c k):=⟨Zhh,ZMm,(ZJD k),ZBY,ZdK,ZdJ,Zdh,Zly,Zjz,ZYI,Z3V,Tv⟩
abbrev EV2 (k:Int) (a:HL ZU):=ZfF (envX prog (Z4c k) [] 79250227772808467515411824639 8) Tryz.f164 ZU ZTZ a
