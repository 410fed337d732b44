import Derived.Test.YtpnjbfjomebppaaGreatPinsEq
open Go.Proofs.Tryz (prog)
open Go.IntKind (u8 u16 i64)
set_option linter.unusedSimpArgs false
open Go Go.S3 Go.Proofs
set_option linter.unusedVariables false
set_option maxRecDepth 100000
namespace Go.Proofs.YtpnjbfjomebppaaGreat
noncomputable section
def ZdM (k:Int):En:=.tree (ZA (envX prog [(154,ZxW k),(213,qAtE)] [] 255 8) Tryz.f150)
theorem Zgq (k:Int):Zb prog 150 (ZdM k):=Z6 (P:=prog) (n:=255) (k:=8) (l:=[(154,ZxW k),(213,qAtE)]) (ol:=[]) ⟨(ZFc k),Zjh,Tv⟩ Tryz.func150 rfl (by kernel_rfl) Tryz.call150 trivial
def Zcs:En:=.tree (ZA (envX prog [(213,qAtE),(216,Zxh),(284,Znm),(290,ZxG),(291,Zck)] [] 2597417327555236063515274458956831 8) Tryz.f228)
theorem Zgs:Zb prog 228 Zcs:=Z6 ⟨Zjh,ZsS,ZsT,ZEJ,ZeU,Tv⟩ Tryz.func228 rfl (by kernel_rfl) Tryz.call228 trivial
def ZbH:En:=.tree (ZA (envX prog [(213,qAtE),(215,ZgR),(216,Zxh),(282,ZE1),(283,ZFf),(290,ZxG),(291,Zck),(292,ZVZ),(293,Znl),(294,ZMH),(295,ZNa),(296,ZNe),(297,ZNg),(298,ZLY)] [] 7069140681974987581262622498806463579024171163532525608263727578473562367 8) Tryz.f229)
theorem Ze8:Zb prog 229 ZbH:=Z6 ⟨Zjh,Zjb,ZsS,ZE0,ZFe,ZEJ,ZeU,ZVY,Zz7,ZRn,ZRv,ZRx,ZRz,ZQ8,Tv⟩ Tryz.func229 rfl (by kernel_rfl) Tryz.call229 trivial
def ZbG:En:=.tree (ZA (envX prog [(215,ZgR),(284,Znm),(286,Zio),(291,Zck),(299,ZnT)] [] 1300629477622019213679053869679119 8) Tryz.f230)
theorem Ze7:Zb prog 230 ZbG:=Z6 ⟨Zjb,ZsT,Znk,ZeU,ZAG,Tv⟩ Tryz.func230 rfl (by kernel_rfl) Tryz.call230 trivial
def Zcb:En:=.tree (ZA (envX prog [(213,qAtE),(215,ZgR),(291,Zck),(301,ZBU),(302,ZBY),(303,ZAO)] [] 19808249554387950831669350527 8) Tryz.f233)
theorem Zf3:Zb prog 233 Zcb:=Z6 ⟨Zjh,Zjb,ZeU,ZM4,ZNn,ZL8,Tv⟩ Tryz.func233 rfl (by kernel_rfl) Tryz.call233 trivial
def Zc7:En:=.tree (ZA (envX prog [(227,Zjg),(228,Zcs),(229,ZbH),(230,ZbG),(231,ZL0),(232,ZLQ),(233,Zcb)] [] 1299342484808491477133836286951679 8) Tryz.f156)
theorem Zfw:Zb prog 156 Zc7:=Z6 ⟨Zq2,Zgs,Ze8,Ze7,ZRa,ZQ4,Zf3,Tv⟩ Tryz.func156 rfl (by kernel_rfl) Tryz.call156 trivial
abbrev ZP:List Sh:=[Sh.agg Z8,So Kc,So (R.sl Ka),Sh.agg (R.Pq R.bool (R.Pq R.bool rcF7))]
def ZVU (k:Int):List (FuncId×En):=[(150,ZdM k),(151,Zky),(155,Zxz),(156,Zc7)]
theorem ZRr (k:Int):Zd1 prog (ZVU k):=⟨(Zgq k),Zli,ZAz,Zfw,Tv⟩
abbrev EV0 (k:Int) (a:HL ZP):=Zhg (envX prog (ZVU k) [] 1023 8) Tryz.f85 ZP ZLP a
