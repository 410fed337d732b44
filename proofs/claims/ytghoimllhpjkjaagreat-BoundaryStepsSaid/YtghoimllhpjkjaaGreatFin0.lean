import Derived.Test.YtghoimllhpjkjaaGreatPinsEq
open Go.Proofs.Tryz (prog)
open Go.IntKind (u8 u16 i64)
set_option linter.unusedSimpArgs false
open Go Go.S3 Go.Proofs
set_option linter.unusedVariables false
set_option maxRecDepth 100000
namespace Go.Proofs.YtghoimllhpjkjaaGreat
noncomputable section
def ZdH (k:Int):En:=.tree (ZO (envX prog [(182,ZyN k),(222,qAtE)] [] 255 8) Tryz.f178)
theorem ZfZ (k:Int):Za prog 178 (ZdH k):=Zaf (P:=prog) (n:=255) (k:=8) (l:=[(182,ZyN k),(222,qAtE)]) (ol:=[]) ⟨(ZHF k),ZiU,Tv⟩ Tryz.func178 rfl (by kernel_rfl) Tryz.call178 trivial
def Zch:En:=.tree (ZO (envX prog [(222,qAtE),(232,Zyo),(268,ZyD),(269,Zb9),(270,ZnV)] [] 2597417327555236063515274458956831 8) Tryz.f224)
theorem Zf0:Za prog 224 Zch:=Zaf (P:=prog) (n:=2597417327555236063515274458956831) (k:=8) (l:=[(222,qAtE),(232,Zyo),(268,ZyD),(269,Zb9),(270,ZnV)]) (ol:=[]) ⟨ZiU,Zul,ZHg,ZeL,Zum,Tv⟩ Tryz.func224 rfl (by kernel_rfl) Tryz.call224 trivial
def Zby:En:=.tree (ZO (envX prog [(222,qAtE),(231,Zgw),(232,Zyo),(268,ZyD),(269,Zb9),(271,Z0s),(272,ZnU),(273,ZHw),(274,ZHI),(275,ZQ3),(276,ZRv),(277,ZRz),(278,ZRB),(279,ZQu)] [] 7069140681974987581262622498806463579024171163532525608263727578473562367 8) Tryz.f225)
theorem ZeV:Za prog 225 Zby:=Zaf (P:=prog) (n:=7069140681974987581262622498806463579024171163532525608263727578473562367) (k:=8) (l:=[(222,qAtE),(231,Zgw),(232,Zyo),(268,ZyD),(269,Zb9),(271,Z0s),(272,ZnU),(273,ZHw),(274,ZHI),(275,ZQ3),(276,ZRv),(277,ZRz),(278,ZRB),(279,ZQu)]) (ol:=[]) ⟨ZiU,ZiO,Zul,ZHg,ZeL,Z0r,ZCr,ZHv,ZHH,ZVq,ZVy,ZVA,ZVC,ZVf,Tv⟩ Tryz.func225 rfl (by kernel_rfl) Tryz.call225 trivial
def Zbx:En:=.tree (ZO (envX prog [(231,Zgw),(269,Zb9),(270,ZnV),(280,Zh0),(281,Zn6)] [] 1300629477622019213679053869679119 8) Tryz.f226)
theorem ZeU:Za prog 226 Zbx:=Zaf (P:=prog) (n:=1300629477622019213679053869679119) (k:=8) (l:=[(231,Zgw),(269,Zb9),(270,ZnV),(280,Zh0),(281,Zn6)]) (ol:=[]) ⟨ZiO,ZeL,Zum,ZnS,ZCE,Tv⟩ Tryz.func226 rfl (by kernel_rfl) Tryz.call226 trivial
def Zb0:En:=.tree (ZO (envX prog [(222,qAtE),(231,Zgw),(269,Zb9),(283,ZDP),(284,ZDS),(285,ZCM)] [] 19808249554387950831669350527 8) Tryz.f229)
theorem ZfI:Za prog 229 Zb0:=Zaf (P:=prog) (n:=19808249554387950831669350527) (k:=8) (l:=[(222,qAtE),(231,Zgw),(269,Zb9),(283,ZDP),(284,ZDS),(285,ZCM)]) (ol:=[]) ⟨ZiU,ZiO,ZeL,ZRp,ZRD,ZQE,Tv⟩ Tryz.func229 rfl (by kernel_rfl) Tryz.call229 trivial
def ZcV:En:=.tree (ZO (envX prog [(223,ZiT),(224,Zch),(225,Zby),(226,Zbx),(227,ZQw),(228,ZQn),(229,Zb0)] [] 1299342484808491477133836286951679 8) Tryz.f179)
theorem Zfi:Za prog 179 ZcV:=Zaf (P:=prog) (n:=1299342484808491477133836286951679) (k:=8) (l:=[(223,ZiT),(224,Zch),(225,Zby),(226,Zbx),(227,ZQw),(228,ZQn),(229,Zb0)]) (ol:=[]) ⟨Zrw,Zf0,ZeV,ZeU,ZVh,ZVb,ZfI,Tv⟩ Tryz.func179 rfl (by kernel_rfl) Tryz.call179 trivial
abbrev ZY:List Sh:=[Sh.agg Zt,Sh.one (R.int i64),Sh.one (R.sl (R.int u8)),Sh.agg (R.Pq R.bool (R.Pq R.bool rcF7))]
abbrev ZRm:Rs:=Rs.one (Sh.agg Zt)
def Z0o (k:Int):List (FuncId×En):=[(176,Zka),(177,Zyy),(178,ZdH k),(179,ZcV)]
theorem ZVu (k:Int):Zdg prog (Z0o k):=⟨ZkQ,ZCA,(ZfZ k),Zfi,Tv⟩
abbrev EV0 (k:Int) (a:HL ZY):=ZeW (envX prog (Z0o k) [] 1023 8) Tryz.f111 ZY ZRm a
def ZbG:En:=.tree (ZO (envX prog [(157,Zhk),(165,Zpk),(169,Zh6)] [] 4722654783631989407807 8) Tryz.f154)
theorem Zda:Za prog 154 ZbG:=Zaf (P:=prog) (n:=4722654783631989407807) (k:=8) (l:=[(157,Zhk),(165,Zpk),(169,Zh6)]) (ol:=[]) ⟨Zkj,ZvY,Zpm,Tv⟩ Tryz.func154 rfl (by kernel_rfl) Tryz.call154 trivial
def ZbF:En:=.tree (ZO (envX prog [(153,mAtE),(158,Zgq),(163,ZnM),(165,Zpk),(205,ZJh),(206,Zgo),(207,Zta)] [] 89290093085330224515083647028849395745489151 8) Tryz.f155)
theorem Zc9:Za prog 155 ZbF:=Zaf (P:=prog) (n:=89290093085330224515083647028849395745489151) (k:=8) (l:=[(153,mAtE),(158,Zgq),(163,ZnM),(165,Zpk),(205,ZJh),(206,Zgo),(207,Zta)]) (ol:=[]) ⟨Zzk,ZiH,ZtB,ZvY,ZA7,ZmU,ZJg,Tv⟩ Tryz.func155 rfl (by kernel_rfl) Tryz.call155 trivial
def Zbp:En:=.tree (ZO (envX prog [(153,mAtE),(158,Zgq),(163,ZnM),(166,Zgm),(205,ZJh),(206,Zgo),(208,rDoE),(209,ZZw),(210,ZZG),(211,ZZL),(212,ZZO),(213,ZOB),(214,ZPF),(215,ZPT),(216,ZBf)] [] 7068251030063838779883004342589958256918126813077978922614622863581249535 8) Tryz.f156)
theorem ZcJ:Za prog 156 Zbp:=Zaf (P:=prog) (n:=7068251030063838779883004342589958256918126813077978922614622863581249535) (k:=8) (l:=[(153,mAtE),(158,Zgq),(163,ZnM),(166,Zgm),(205,ZJh),(206,Zgo),(208,rDoE),(209,ZZw),(210,ZZG),(211,ZZL),(212,ZZO),(213,ZOB),(214,ZPF),(215,ZPT),(216,ZBf)]) (ol:=[]) ⟨Zzk,ZiH,ZtB,ZmS,ZA7,ZmU,Z19,ZZu,ZZE,ZZJ,ZZM,ZUx,ZUV,ZUZ,ZOJ,Tv⟩ Tryz.func156 rfl (by kernel_rfl) Tryz.call156 trivial
abbrev ZX:List Sh:=[Sh.agg Zt,Sh.one (R.int i64),Sh.one (R.sl (R.int u8)),Sh.agg (R.Pq R.bool (R.Pq R.bool rcF7))]
abbrev ZPy:Rs:=Rs.one (Sh.agg Zt)
def ZZA (k:Int):List (FuncId×En):=[(104,Zhb),(107,ZPI k),(152,ZF6),(153,mAtE),(154,ZbG),(155,ZbF),(156,Zbp),(157,Zhk),(158,Zgq),(159,ZXa),(160,Z1V)]
theorem ZUU (k:Int):Zdg prog (ZZA k):=⟨Zgt,(ZGW k),ZJb,Zzk,Zda,Zc9,ZcJ,Zkj,ZiH,ZUy,ZZj,Tv⟩
abbrev EV2 (k:Int) (a:HL ZX):=ZeW (envX prog (ZZA k) [] 79250227772808467515411824639 8) Tryz.f98 ZX ZPy a
end
end Go.Proofs.YtghoimllhpjkjaaGreat
