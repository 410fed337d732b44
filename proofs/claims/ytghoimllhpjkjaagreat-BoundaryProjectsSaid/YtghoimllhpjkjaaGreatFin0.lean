import Derived.Test.YtghoimllhpjkjaaGreatS3D
import Derived.Test.YtghoimllhpjkjaaGreatProg
import Derived.Test.YtghoimllhpjkjaaGreatPinsEq
open Go.Proofs.Tryz (prog)
open Go.IntKind (u8 u16 i64)
set_option linter.unusedSimpArgs false
open Go Go.S3 Go.Proofs
set_option linter.unusedVariables false
set_option maxRecDepth 100000
namespace Go.Proofs.YtghoimllhpjkjaaGreat
noncomputable section
def ZdC (k:Int):Entry:=.tree (ZS (envX prog [(182,Zyp k),(222,qAtE)] [] 255 8) Tryz.f178)
theorem ZfW (k:Int):Za prog 178 (ZdC k):=Zaq (P:=prog) (n:=255) (k:=8) (l:=[(182,Zyp k),(222,qAtE)]) (ol:=[]) ⟨(ZGU k),ZiW,Tv⟩ Tryz.func178 rfl (by kernel_rfl) Tryz.call178 trivial
def Zb9:Entry:=.tree (ZS (envX prog [(222,qAtE),(232,Zx2),(268,Zyf),(269,Zb5),(270,ZnL)] [] 2597417327555236063515274458956831 8) Tryz.f224)
theorem ZfX:Za prog 224 Zb9:=Zaq (P:=prog) (n:=2597417327555236063515274458956831) (k:=8) (l:=[(222,qAtE),(232,Zx2),(268,Zyf),(269,Zb5),(270,ZnL)]) (ol:=[]) ⟨ZiW,Zud,ZGw,Zez,Zue,Tv⟩ Tryz.func224 rfl (by kernel_rfl) Tryz.call224 trivial
def Zbz:Entry:=.tree (ZS (envX prog [(222,qAtE),(231,Zgo),(232,Zx2),(268,Zyf),(269,Zb5),(271,ZZb),(272,ZnK),(273,ZGN),(274,ZGX),(275,ZP3),(276,ZQt),(277,ZQx),(278,ZQz),(279,ZPw)] [] 7069140681974987581262622498806463579024171163532525608263727578473562367 8) Tryz.f225)
theorem ZeK:Za prog 225 Zbz:=Zaq (P:=prog) (n:=7069140681974987581262622498806463579024171163532525608263727578473562367) (k:=8) (l:=[(222,qAtE),(231,Zgo),(232,Zx2),(268,Zyf),(269,Zb5),(271,ZZb),(272,ZnK),(273,ZGN),(274,ZGX),(275,ZP3),(276,ZQt),(277,ZQx),(278,ZQz),(279,ZPw)]) (ol:=[]) ⟨ZiW,ZiQ,Zud,ZGw,Zez,ZZa,ZBU,ZGM,ZGW,ZUf,ZUo,ZUq,ZUs,ZT4,Tv⟩ Tryz.func225 rfl (by kernel_rfl) Tryz.call225 trivial
def Zby:Entry:=.tree (ZS (envX prog [(231,Zgo),(269,Zb5),(270,ZnL),(280,ZhU),(281,ZnY)] [] 1300629477622019213679053869679119 8) Tryz.f226)
theorem ZeJ:Za prog 226 Zby:=Zaq (P:=prog) (n:=1300629477622019213679053869679119) (k:=8) (l:=[(231,Zgo),(269,Zb5),(270,ZnL),(280,ZhU),(281,ZnY)]) (ol:=[]) ⟨ZiQ,Zez,Zue,ZnJ,ZB7,Tv⟩ Tryz.func226 rfl (by kernel_rfl) Tryz.call226 trivial
def ZbW:Entry:=.tree (ZS (envX prog [(222,qAtE),(231,Zgo),(269,Zb5),(283,ZDe),(284,ZDh),(285,ZCe)] [] 19808249554387950831669350527 8) Tryz.f229)
theorem ZfA:Za prog 229 ZbW:=Zaq (P:=prog) (n:=19808249554387950831669350527) (k:=8) (l:=[(222,qAtE),(231,Zgo),(269,Zb5),(283,ZDe),(284,ZDh),(285,ZCe)]) (ol:=[]) ⟨ZiW,ZiQ,Zez,ZQn,ZQB,ZPE,Tv⟩ Tryz.func229 rfl (by kernel_rfl) Tryz.call229 trivial
def ZcV:Entry:=.tree (ZS (envX prog [(223,ZiV),(224,Zb9),(225,Zbz),(226,Zby),(227,ZPy),(228,ZPp),(229,ZbW)] [] 1299342484808491477133836286951679 8) Tryz.f179)
theorem Ze7:Za prog 179 ZcV:=Zaq (P:=prog) (n:=1299342484808491477133836286951679) (k:=8) (l:=[(223,ZiV),(224,Zb9),(225,Zbz),(226,Zby),(227,ZPy),(228,ZPp),(229,ZbW)]) (ol:=[]) ⟨Zrn,ZfX,ZeK,ZeJ,ZT6,ZT0,ZfA,Tv⟩ Tryz.func179 rfl (by kernel_rfl) Tryz.call179 trivial
abbrev Zo:List Sh:=[Sh.agg Zx,Sh.one (R.int i64),Sh.one (R.sl (R.int u8)),Sh.agg (R.pair R.bool (R.pair R.bool rcF7))]
abbrev Z4:Rs:=Rs.one (Sh.agg Zx)
def ZaL (k:Int):List (FuncId×Entry):=[(176,Zj8),(177,Zya),(178,ZdC k),(179,ZcV)]
theorem ZUk (k:Int):Zde prog (ZaL k):=⟨ZkN,ZB3,(ZfW k),Ze7,Tv⟩
def ZbE:Entry:=.tree (ZS (envX prog [(157,Zhd),(165,Zpb),(169,Zh0)] [] 4722654783631989407807 8) Tryz.f154)
theorem Zc8:Za prog 154 ZbE:=Zaq (P:=prog) (n:=4722654783631989407807) (k:=8) (l:=[(157,Zhd),(165,Zpb),(169,Zh0)]) (ol:=[]) ⟨Zki,ZvL,Zpd,Tv⟩ Tryz.func154 rfl (by kernel_rfl) Tryz.call154 trivial
def ZbD:Entry:=.tree (ZS (envX prog [(153,mAtE),(158,Zgj),(163,ZnD),(165,Zpb),(205,ZIk),(206,Zgh),(207,Zs1)] [] 89290093085330224515083647028849395745489151 8) Tryz.f155)
theorem Zc7:Za prog 155 ZbD:=Zaq (P:=prog) (n:=89290093085330224515083647028849395745489151) (k:=8) (l:=[(153,mAtE),(158,Zgj),(163,ZnD),(165,Zpb),(205,ZIk),(206,Zgh),(207,Zs1)]) (ol:=[]) ⟨ZyU,ZiL,Ztt,ZvL,ZAB,ZmK,ZIj,Tv⟩ Tryz.func155 rfl (by kernel_rfl) Tryz.call155 trivial
def Zbq:Entry:=.tree (ZS (envX prog [(153,mAtE),(158,Zgj),(163,ZnD),(166,Zgf),(205,ZIk),(206,Zgh),(208,rDoE),(209,ZYi),(210,ZYr),(211,ZYw),(212,ZYz),(213,ZNH),(214,ZOJ),(215,ZOX),(216,ZAJ)] [] 7068251030063838779883004342589958256918126813077978922614622863581249535 8) Tryz.f156)
theorem ZcG:Za prog 156 Zbq:=Zaq (P:=prog) (n:=7068251030063838779883004342589958256918126813077978922614622863581249535) (k:=8) (l:=[(153,mAtE),(158,Zgj),(163,ZnD),(166,Zgf),(205,ZIk),(206,Zgh),(208,rDoE),(209,ZYi),(210,ZYr),(211,ZYw),(212,ZYz),(213,ZNH),(214,ZOJ),(215,ZOX),(216,ZAJ)]) (ol:=[]) ⟨ZyU,ZiL,Ztt,ZmJ,ZAB,ZmK,Z0I,ZYg,ZYp,ZYu,ZYx,ZTo,ZTM,ZTQ,ZNP,Tv⟩ Tryz.func156 rfl (by kernel_rfl) Tryz.call156 trivial
abbrev Zn:List Sh:=[Sh.agg Zx,Sh.one (R.int i64),Sh.one (R.sl (R.int u8)),Sh.agg (R.pair R.bool (R.pair R.bool rcF7))]
abbrev Z2:Rs:=Rs.one (Sh.agg Zx)
def ZaK (k:Int):List (FuncId×Entry):=[(104,Zg3),(107,ZOM k),(152,ZFk),(153,mAtE),(154,ZbE),(155,ZbD),(156,Zbq),(157,Zhd),(158,Zgj),(159,ZVX),(160,Z0u)]
theorem ZTL (k:Int):Zde prog (ZaK k):=⟨Zgm,(ZGb k),ZIe,ZyU,Zc8,Zc7,ZcG,Zki,ZiL,ZTp,ZX5,Tv⟩
end
end Go.Proofs.YtghoimllhpjkjaaGreat
