import Derived.Test.YtpnjbfjomebppaaGreatPinsEq
open Go.Proofs.Tryz (prog)
open Go.IntKind (u8 u16 i64)
set_option linter.unusedSimpArgs false
open Go Go.S3 Go.Proofs
set_option linter.unusedVariables false
set_option maxRecDepth 100000
namespace Go.Proofs.YtpnjbfjomebppaaGreat
noncomputable section
def Zdp (k:Int):En:=.tree (ZM (envX prog [(154,Zy7 k),(213,qAtE)] [] 255 8) Tryz.f150)
theorem ZfO (k:Int):Za prog 150 (Zdp k):=Zad (P:=prog) (n:=255) (k:=8) (l:=[(154,Zy7 k),(213,qAtE)]) (ol:=[]) ⟨(ZHF k),Zi2,Tv⟩ Tryz.func150 rfl (by kernel_rfl) Tryz.call150 trivial
def ZbY:En:=.tree (ZM (envX prog [(213,qAtE),(216,ZyJ),(284,Zn1),(290,ZyX),(291,ZbS)] [] 2597417327555236063515274458956831 8) Tryz.f228)
theorem ZfP:Za prog 228 ZbY:=Zad ⟨Zi2,ZuF,ZuG,ZHh,Zeo,Tv⟩ Tryz.func228 rfl (by kernel_rfl) Tryz.call228 trivial
def Zbn:En:=.tree (ZM (envX prog [(213,qAtE),(215,Zgo),(216,ZyJ),(282,ZHy),(283,ZHI),(290,ZyX),(291,ZbS),(292,ZZ3),(293,Zn0),(294,ZQU),(295,ZRl),(296,ZRp),(297,ZRr),(298,ZQm)] [] 7069140681974987581262622498806463579024171163532525608263727578473562367 8) Tryz.f229)
theorem Zey:Za prog 229 Zbn:=Zad ⟨Zi2,ZiW,ZuF,ZHx,ZHH,ZHh,Zeo,ZZ2,ZCK,ZVa,ZVj,ZVl,ZVn,ZUZ,Tv⟩ Tryz.func229 rfl (by kernel_rfl) Tryz.call229 trivial
def Zbm:En:=.tree (ZM (envX prog [(215,Zgo),(284,Zn1),(286,ZhY),(291,ZbS),(299,Zoc)] [] 1300629477622019213679053869679119 8) Tryz.f230)
theorem Zex:Za prog 230 Zbm:=Zad ⟨ZiW,ZuG,ZnZ,Zeo,ZCY,Tv⟩ Tryz.func230 rfl (by kernel_rfl) Tryz.call230 trivial
def ZbK:En:=.tree (ZM (envX prog [(213,qAtE),(215,Zgo),(291,ZbS),(301,ZD6),(302,ZD9),(303,ZC5)] [] 19808249554387950831669350527 8) Tryz.f233)
theorem Zfu:Za prog 233 ZbK:=Zad ⟨Zi2,ZiW,Zeo,ZRf,ZRt,ZQu,Tv⟩ Tryz.func233 rfl (by kernel_rfl) Tryz.call233 trivial
def ZcE:En:=.tree (ZM (envX prog [(227,Zi1),(228,ZbY),(229,Zbn),(230,Zbm),(231,ZQo),(232,ZQf),(233,ZbK)] [] 1299342484808491477133836286951679 8) Tryz.f156)
theorem ZeZ:Za prog 156 ZcE:=Zad ⟨ZrL,ZfP,Zey,Zex,ZU1,ZUV,Zfu,Tv⟩ Tryz.func156 rfl (by kernel_rfl) Tryz.call156 trivial
abbrev ZU:List Sh:=[Sh.agg Zr,So Kc,So (R.sl Ka),Sh.agg (R.Pq R.bool (R.Pq R.bool rcF7))]
def ZZZ (k:Int):List (FuncId×En):=[(150,Zdp k),(151,Zke),(155,ZyS),(156,ZcE)]
theorem ZVf (k:Int):Zc3 prog (ZZZ k):=⟨(ZfO k),ZkX,ZCU,ZeZ,Tv⟩
abbrev EV0 (k:Int) (a:HL ZU):=Zez (envX prog (ZZZ k) [] 1023 8) Tryz.f85 ZU ZQe a
def Zbs:En:=.tree (ZM (envX prog [(243,Zhh),(309,Zh5),(310,Zpr)] [] 4722654783631989407807 8) Tryz.f240)
theorem ZcW:Za prog 240 Zbs:=Zad ⟨Zkr,Zpt,Zwf,Tv⟩ Tryz.func240 rfl (by kernel_rfl) Tryz.call240 trivial
def Zbr:En:=.tree (ZM (envX prog [(239,mAtE),(244,Zgi),(310,Zpr),(311,ZnT),(312,ZJe),(313,Zgg),(314,Ztt)] [] 89290093085330224515083647028849395745489151 8) Tryz.f241)
theorem ZcV:Za prog 241 Zbr:=Zad ⟨ZzC,ZiO,Zwf,ZtU,ZBr,Zm1,ZJd,Tv⟩ Tryz.func241 rfl (by kernel_rfl) Tryz.call241 trivial
def Zbh:En:=.tree (ZM (envX prog [(239,mAtE),(244,Zgi),(311,ZnT),(312,ZJe),(313,Zgg),(315,rDoE),(316,Zge),(317,ZY9),(318,ZZi),(319,ZZn),(320,ZZq),(321,ZOv),(322,ZPA),(323,ZPO),(324,ZBz)] [] 7068251030063838779883004342589958256918126813077978922614622863581249535 8) Tryz.f242)
theorem Zcq:Za prog 242 Zbh:=Zad ⟨ZzC,ZiO,ZtU,ZBr,Zm1,Z1H,Zm0,ZY7,ZZg,ZZl,ZZo,ZUh,ZUG,ZUK,ZOD,Tv⟩ Tryz.func242 rfl (by kernel_rfl) Tryz.call242 trivial
def ZZd (k:Int):List (FuncId×En):=[(236,Zg5),(237,ZGc),(238,ZPD k),(239,mAtE),(240,Zbs),(241,Zbr),(242,Zbh),(243,Zhh),(244,Zgi),(245,ZWO),(246,Z1t)]
theorem ZUE (k:Int):Zc3 prog (ZZd k):=⟨Zgm,ZI8,(ZG0 k),ZzC,ZcW,ZcV,Zcq,Zkr,ZiO,ZUi,ZYW,Tv⟩
abbrev EV2 (k:Int) (a:HL ZU):=Zez (envX prog (ZZd k) [] 79250227772808467515411824639 8) Tryz.f164 ZU ZQe a
