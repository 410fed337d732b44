import Derived.Test.YtghoimllhpjkjaaGreatS3D
import Derived.Test.YtghoimllhpjkjaaGreatProg
import Derived.Test.YtghoimllhpjkjaaGreatPinsEq
open Go.Proofs.Tryz (prog)
open Go.IntKind (u8 u16 i64)
set_option linter.unusedSimpArgs false
open Go Go.S3 Go.Proofs
set_option linter.unusedVariables false
set_option maxRecDepth 100000
namespace Go.Proofs.YtghoimllhpjkjaaGreat
noncomputable section
def ZdF (k:Int):Entry:=.tree (ZS (envX prog [(182,Zx1 k),(222,qAtE)] [] 255 8) Tryz.f178)
theorem ZfR (k:Int):Za prog 178 (ZdF k):=Zas (P:=prog) (n:=255) (k:=8) (l:=[(182,Zx1 k),(222,qAtE)]) (ol:=[]) ⟨(ZGy k),ZiE,Tv⟩ Tryz.func178 rfl (by kernel_rfl) Tryz.call178 trivial
def Zch:Entry:=.tree (ZS (envX prog [(222,qAtE),(232,ZxD),(268,ZxR),(269,Zcb),(270,Znt)] [] 2597417327555236063515274458956831 8) Tryz.f224)
theorem ZfS:Za prog 224 Zch:=Zas (P:=prog) (n:=2597417327555236063515274458956831) (k:=8) (l:=[(222,qAtE),(232,ZxD),(268,ZxR),(269,Zcb),(270,Znt)]) (ol:=[]) ⟨ZiE,ZtN,ZGa,ZeD,ZtO,Tv⟩ Tryz.func224 rfl (by kernel_rfl) Tryz.call224 trivial
def ZbC:Entry:=.tree (ZS (envX prog [(222,qAtE),(231,Zgk),(232,ZxD),(268,ZxR),(269,Zcb),(271,ZYE),(272,Zns),(273,ZGr),(274,ZGB),(275,ZPC),(276,ZP2),(277,ZP6),(278,ZP8),(279,ZO5)] [] 7069140681974987581262622498806463579024171163532525608263727578473562367 8) Tryz.f225)
theorem ZeP:Za prog 225 ZbC:=Zas (P:=prog) (n:=7069140681974987581262622498806463579024171163532525608263727578473562367) (k:=8) (l:=[(222,qAtE),(231,Zgk),(232,ZxD),(268,ZxR),(269,Zcb),(271,ZYE),(272,Zns),(273,ZGr),(274,ZGB),(275,ZPC),(276,ZP2),(277,ZP6),(278,ZP8),(279,ZO5)]) (ol:=[]) ⟨ZiE,Ziy,ZtN,ZGa,ZeD,ZYD,ZBx,ZGq,ZGA,ZTI,ZTR,ZTT,ZTV,ZTx,Tv⟩ Tryz.func225 rfl (by kernel_rfl) Tryz.call225 trivial
def ZbB:Entry:=.tree (ZS (envX prog [(231,Zgk),(269,Zcb),(270,Znt),(280,ZhK),(281,ZnG)] [] 1300629477622019213679053869679119 8) Tryz.f226)
theorem ZeO:Za prog 226 ZbB:=Zas (P:=prog) (n:=1300629477622019213679053869679119) (k:=8) (l:=[(231,Zgk),(269,Zcb),(270,Znt),(280,ZhK),(281,ZnG)]) (ol:=[]) ⟨Ziy,ZeD,ZtO,Znr,ZBK,Tv⟩ Tryz.func226 rfl (by kernel_rfl) Tryz.call226 trivial
def Zb2:Entry:=.tree (ZS (envX prog [(222,qAtE),(231,Zgk),(269,Zcb),(283,ZCR),(284,ZCU),(285,ZBR)] [] 19808249554387950831669350527 8) Tryz.f229)
theorem Zfz:Za prog 229 Zb2:=Zas (P:=prog) (n:=19808249554387950831669350527) (k:=8) (l:=[(222,qAtE),(231,Zgk),(269,Zcb),(283,ZCR),(284,ZCU),(285,ZBR)]) (ol:=[]) ⟨ZiE,Ziy,ZeD,ZPW,ZQa,ZPd,Tv⟩ Tryz.func229 rfl (by kernel_rfl) Tryz.call229 trivial
def Zc0:Entry:=.tree (ZS (envX prog [(223,ZiD),(224,Zch),(225,ZbC),(226,ZbB),(227,ZO7),(228,ZOY),(229,Zb2)] [] 1299342484808491477133836286951679 8) Tryz.f179)
theorem Ze6:Za prog 179 Zc0:=Zas (P:=prog) (n:=1299342484808491477133836286951679) (k:=8) (l:=[(223,ZiD),(224,Zch),(225,ZbC),(226,ZbB),(227,ZO7),(228,ZOY),(229,Zb2)]) (ol:=[]) ⟨Zq0,ZfS,ZeP,ZeO,ZTz,ZTt,Zfz,Tv⟩ Tryz.func179 rfl (by kernel_rfl) Tryz.call179 trivial
abbrev Zo:List Sh:=[Sh.agg ZF,Sh.one (R.int i64),Sh.one (R.sl (R.int u8)),Sh.agg (R.pair R.bool (R.pair R.bool rcF7))]
abbrev Z9:Rs:=Rs.one (Sh.agg ZF)
def ZaL (k:Int):List (FuncId×Entry):=[(176,ZjO),(177,ZxM),(178,ZdF k),(179,Zc0)]
theorem ZTN (k:Int):Zdk prog (ZaL k):=⟨Zkt,ZBG,(ZfR k),Ze6,Tv⟩
def ZbJ:Entry:=.tree (ZS (envX prog [(157,Zg8),(165,ZoT),(169,ZhQ)] [] 4722654783631989407807 8) Tryz.f154)
theorem Zde:Za prog 154 ZbJ:=Zas (P:=prog) (n:=4722654783631989407807) (k:=8) (l:=[(157,Zg8),(165,ZoT),(169,ZhQ)]) (ol:=[]) ⟨ZjY,Zvl,ZoV,Tv⟩ Tryz.func154 rfl (by kernel_rfl) Tryz.call154 trivial
def ZbI:Entry:=.tree (ZS (envX prog [(153,mAtE),(158,Zgf),(163,Znl),(165,ZoT),(205,ZHY),(206,Zgd),(207,ZsB)] [] 89290093085330224515083647028849395745489151 8) Tryz.f155)
theorem Zdd:Za prog 155 ZbI:=Zas (P:=prog) (n:=89290093085330224515083647028849395745489151) (k:=8) (l:=[(153,mAtE),(158,Zgf),(163,Znl),(165,ZoT),(205,ZHY),(206,Zgd),(207,ZsB)]) (ol:=[]) ⟨Zyz,Zit,Zs3,Zvl,ZAe,Zms,ZHX,Tv⟩ Tryz.func155 rfl (by kernel_rfl) Tryz.call155 trivial
def Zbs:Entry:=.tree (ZS (envX prog [(153,mAtE),(158,Zgf),(163,Znl),(166,Zgb),(205,ZHY),(206,Zgd),(208,rDoE),(209,ZXL),(210,ZXU),(211,ZXZ),(212,ZX2),(213,ZNh),(214,ZOj),(215,ZOx),(216,ZAm)] [] 7068251030063838779883004342589958256918126813077978922614622863581249535 8) Tryz.f156)
theorem ZcM:Za prog 156 Zbs:=Zas (P:=prog) (n:=7068251030063838779883004342589958256918126813077978922614622863581249535) (k:=8) (l:=[(153,mAtE),(158,Zgf),(163,Znl),(166,Zgb),(205,ZHY),(206,Zgd),(208,rDoE),(209,ZXL),(210,ZXU),(211,ZXZ),(212,ZX2),(213,ZNh),(214,ZOj),(215,ZOx),(216,ZAm)]) (ol:=[]) ⟨Zyz,Zit,Zs3,Zmr,ZAe,Zms,Z0e,ZXJ,ZXS,ZXX,ZX0,ZSR,ZTf,ZTj,ZNp,Tv⟩ Tryz.func156 rfl (by kernel_rfl) Tryz.call156 trivial
abbrev Zn:List Sh:=[Sh.agg ZF,Sh.one (R.int i64),Sh.one (R.sl (R.int u8)),Sh.agg (R.pair R.bool (R.pair R.bool rcF7))]
abbrev Z7:Rs:=Rs.one (Sh.agg ZF)
def ZaK (k:Int):List (FuncId×Entry):=[(104,ZgY),(107,ZOm k),(152,ZEZ),(153,mAtE),(154,ZbJ),(155,ZbI),(156,Zbs),(157,Zg8),(158,Zgf),(159,ZVp),(160,ZZ0)]
theorem ZTe (k:Int):Zdk prog (ZaK k):=⟨Zgi,(ZFP k),ZHS,Zyz,Zde,Zdd,ZcM,ZjY,Zit,ZSS,ZXy,Tv⟩
end
end Go.Proofs.YtghoimllhpjkjaaGreat
