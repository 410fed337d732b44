import Derived.Test.YtpnjbfjomebppaaGreatPinsEq
open Go.Proofs.Tryz (prog)
open Go.IntKind (u8 u16 i64)
set_option linter.unusedSimpArgs false
open Go Go.S3 Go.Proofs
set_option linter.unusedVariables false
set_option maxRecDepth 100000
namespace Go.Proofs.YtpnjbfjomebppaaGreat
noncomputable section
def Zef (k:Int):En:=.tree (Zt (envX prog [(154,ZBU k),(213,qAtE)] [] 255 8) Tryz.f150)
theorem ZgM (k:Int):Za prog 150 (Zef k):=ZL (P:=prog) (n:=255) (k:=8) (l:=[(154,ZBU k),(213,qAtE)]) (ol:=[]) ⟨(ZLw k),ZjT,Tv⟩ Tryz.func150 rfl (by kernel_rfl) Tryz.call150 trivial
def ZcB:En:=.tree (Zt (envX prog [(213,qAtE),(216,ZBf),(284,ZpB),(290,ZBE),(291,Zcv)] [] 2597417327555236063515274458956831 8) Tryz.f228)
theorem ZgN:Za prog 228 ZcB:=ZL ⟨ZjT,ZwL,ZwM,ZK3,Zff,Tv⟩ Tryz.func228 rfl (by kernel_rfl) Tryz.call228 trivial
def ZbP:En:=.tree (Zt (envX prog [(213,qAtE),(215,Zhk),(216,ZBf),(282,ZLl),(283,ZLz),(290,ZBE),(291,Zcv),(292,Z6l),(293,ZpA),(294,ZVS),(295,ZWl),(296,ZWp),(297,ZWr),(298,ZU9)] [] 7069140681974987581262622498806463579024171163532525608263727578473562367 8) Tryz.f229)
theorem Zfs:Za prog 229 ZbP:=ZL ⟨ZjT,ZjN,ZwL,ZLk,ZLy,ZK3,Zff,Z6k,ZFE,Z0P,Z0X,Z0Z,Z01,Z0A,Tv⟩ Tryz.func229 rfl (by kernel_rfl) Tryz.call229 trivial
def ZbO:En:=.tree (Zt (envX prog [(215,Zhk),(284,ZpB),(286,ZiU),(291,Zcv),(299,Zp9)] [] 1300629477622019213679053869679119 8) Tryz.f230)
theorem Zfr:Za prog 230 ZbO:=ZL ⟨ZjN,ZwM,Zpz,Zff,ZGe,Tv⟩ Tryz.func230 rfl (by kernel_rfl) Tryz.call230 trivial
def Zck:En:=.tree (Zt (envX prog [(213,qAtE),(215,Zhk),(291,Zcv),(301,ZHs),(302,ZHw),(303,ZGm)] [] 19808249554387950831669350527 8) Tryz.f233)
theorem Zgs:Za prog 233 Zck:=ZL ⟨ZjT,ZjN,Zff,ZWf,ZWy,ZVj,Tv⟩ Tryz.func233 rfl (by kernel_rfl) Tryz.call233 trivial
def Zdv:En:=.tree (Zt (envX prog [(227,ZjS),(228,ZcB),(229,ZbP),(230,ZbO),(231,ZVb),(232,ZU1),(233,Zck)] [] 1299342484808491477133836286951679 8) Tryz.f156)
theorem Zf1:Za prog 156 Zdv:=ZL ⟨ZtN,ZgN,Zfs,Zfr,Z0C,Z0w,Zgs,Tv⟩ Tryz.func156 rfl (by kernel_rfl) Tryz.call156 trivial
abbrev ZZ:List Sh:=[Sh.agg Zq,So Kc,So (R.sl Ka),Sh.agg (R.Pq R.bool (R.Pq R.bool rcF7))]
def Z6g (k:Int):List (FuncId×En):=[(150,Zef k),(151,Zlm),(155,ZBx),(156,Zdv)]
theorem Z0T (k:Int):Zdp prog (Z6g k):=⟨(ZgM k),Zmc,ZF7,Zf1,Tv⟩
abbrev EV0 (k:Int) (a:HL ZZ):=Zft (envX prog (Z6g k) [] 1023 8) Tryz.f85 ZZ ZU0 a
def ZbU:En:=.tree (Zt (envX prog [(243,Zid),(309,Zi1),(310,Zrq)] [] 4722654783631989407807 8) Tryz.f240)
theorem ZdJ:Za prog 240 ZbU:=ZL ⟨ZlA,Zrs,ZyM,Tv⟩ Tryz.func240 rfl (by kernel_rfl) Tryz.call240 trivial
def ZbT:En:=.tree (Zt (envX prog [(239,mAtE),(244,Zhe),(310,Zrq),(311,Zpt),(312,ZNi),(313,Zhc),(314,Zvy)] [] 89290093085330224515083647028849395745489151 8) Tryz.f241)
theorem ZdI:Za prog 241 ZbT:=ZL ⟨ZCw,ZjH,ZyM,Zv1,ZEj,Zoz,ZNh,Tv⟩ Tryz.func241 rfl (by kernel_rfl) Tryz.call241 trivial
def ZbD:En:=.tree (Zt (envX prog [(239,mAtE),(244,Zhe),(311,Zpt),(312,ZNi),(313,Zhc),(315,rDoE),(316,Zha),(317,Z5e),(318,Z5o),(319,Z5t),(320,Z5w),(321,ZSS),(322,ZTU),(323,ZT8),(324,ZEs)] [] 7068251030063838779883004342589958256918126813077978922614622863581249535 8) Tryz.f242)
theorem Zdg:Za prog 242 ZbD:=ZL ⟨ZCw,ZjH,Zv1,ZEj,Zoz,Z73,Zoy,Z5c,Z5m,Z5r,Z5u,ZZG,ZZ4,ZZ8,ZS0,Tv⟩ Tryz.func242 rfl (by kernel_rfl) Tryz.call242 trivial
def Z5i (k:Int):List (FuncId×En):=[(236,Zh3),(237,ZJB),(238,ZTX k),(239,mAtE),(240,ZbU),(241,ZbT),(242,ZbD),(243,Zid),(244,Zhe),(245,Z2H),(246,Z7P)]
theorem ZZ3 (k:Int):Zdp prog (Z5i k):=⟨Zhh,ZNc,(ZKq k),ZCw,ZdJ,ZdI,Zdg,ZlA,ZjH,ZZH,Z41,Tv⟩
abbrev EV2 (k:Int) (a:HL ZZ):=Zft (envX prog (Z5i k) [] 79250227772808467515411824639 8) Tryz.f164 ZZ ZU0 a
