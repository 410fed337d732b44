import Derived.Test.YtpnjbfjomebppaaGreatPinsEq
open Go.Proofs.Tryz (prog)
open Go.IntKind (u8 u16 i64)
set_option linter.unusedSimpArgs false
open Go Go.S3 Go.Proofs
set_option linter.unusedVariables false
set_option maxRecDepth 100000
namespace Go.Proofs.YtpnjbfjomebppaaGreat
noncomputable section
def Zbd:En:=.tree (ZaH (envX prog [(243,ZfP),(309,Zgv),(310,ZlF)] [] 4722654783631989407807 8) Tryz.f240)
theorem Zct:Zd prog 240 Zbd:=Zb3 (P:=prog) (n:=4722654783631989407807) (k:=8) (l:=[(243,ZfP),(309,Zgv),(310,ZlF)]) (ol:=[]) ⟨Zij,ZlG,Zqg,Tv⟩ Tryz.func240 rfl (by kernel_rfl) Tryz.call240 trivial
def Zbc:En:=.tree (ZaH (envX prog [(239,mAtE),(244,Ze3),(310,ZlF),(311,Zk1),(312,ZAH),(313,Ze2),(314,ZoA)] [] 89290093085330224515083647028849395745489151 8) Tryz.f241)
theorem Zcs:Zd prog 241 Zbc:=Zb3 (P:=prog) (n:=89290093085330224515083647028849395745489151) (k:=8) (l:=[(239,mAtE),(244,Ze3),(310,ZlF),(311,Zk1),(312,ZAH),(313,Ze2),(314,ZoA)]) (ol:=[]) ⟨Ztk,Zg5,Zqg,Zo1,ZuW,Zj9,ZAG,Tv⟩ Tryz.func241 rfl (by kernel_rfl) Tryz.call241 trivial
def Za2:En:=.tree (ZaH (envX prog [(239,mAtE),(244,Ze3),(311,Zk1),(312,ZAH),(313,Ze2),(315,rDoE),(316,Ze0),(317,ZLS),(318,ZL0),(319,ZL3),(320,ZL5),(321,ZEa),(322,ZFe),(323,ZFt),(324,Zu3)] [] 7068251030063838779883004342589958256918126813077978922614622863581249535 8) Tryz.f242)
theorem Zce:Zd prog 242 Za2:=Zb3 (P:=prog) (n:=7068251030063838779883004342589958256918126813077978922614622863581249535) (k:=8) (l:=[(239,mAtE),(244,Ze3),(311,Zk1),(312,ZAH),(313,Ze2),(315,rDoE),(316,Ze0),(317,ZLS),(318,ZL0),(319,ZL3),(320,ZL5),(321,ZEa),(322,ZFe),(323,ZFt),(324,Zu3)]) (ol:=[]) ⟨Ztk,Zg5,Zo1,ZuW,Zj9,ZND,Zj7,ZLR,ZLZ,ZL2,ZL4,ZIg,ZIF,ZIK,ZEi,Tv⟩ Tryz.func242 rfl (by kernel_rfl) Tryz.call242 trivial
abbrev ZJ:List Sh:=[Sh.agg ZX,Sh.one (R.int i64),Sh.one (R.sl (R.int u8)),Sh.agg (R.Pq R.bool (R.Pq R.bool rcF7))]
abbrev ZE8:Rs:=Rs.one (Sh.agg ZX)
def ZLV (k:Int):List (FuncId×En):=[(236,ZfD),(237,Zx4),(238,ZFh k),(239,mAtE),(240,Zbd),(241,Zbc),(242,Za2),(243,ZfP),(244,Ze3),(245,ZJ5),(246,ZNl)]
theorem ZIE (k:Int):ZeK prog (ZLV k):=⟨Ze6,ZAz,(ZyV k),Ztk,Zct,Zcs,Zce,Zij,Zg5,ZIh,ZLH,Tv⟩
abbrev EV0 (k:Int) (a:HL ZJ):=Zfk (envX prog (ZLV k) [] 79250227772808467515411824639 8) Tryz.f164 ZJ ZE8 a
end
end Go.Proofs.YtpnjbfjomebppaaGreat
