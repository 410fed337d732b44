import Derived.Test.YtpnjbfjomebppaaGreatPinsEq
open Go.Proofs.Tryz (prog)
open Go.IntKind (u8 u16 i64)
set_option linter.unusedSimpArgs false
open Go Go.S3 Go.Proofs
set_option linter.unusedVariables false
set_option maxRecDepth 100000
namespace Go.Proofs.YtpnjbfjomebppaaGreat
noncomputable section
def ZdS (k:Int):En:=.tree (Zx (envX prog [(154,Zya k),(213,qAtE)] [] 255 8) Tryz.f150)
theorem Zgk (k:Int):Zb prog 150 (ZdS k):=Z5 (P:=prog) (n:=255) (k:=8) (l:=[(154,Zya k),(213,qAtE)]) (ol:=[]) ⟨(ZFD k),Zjd,Tv⟩ Tryz.func150 rfl (by kernel_rfl) Tryz.call150 trivial
def Zcq:En:=.tree (Zx (envX prog [(213,qAtE),(216,Zxu),(284,Znw),(290,ZxV),(291,Zcf)] [] 2597417327555236063515274458956831 8) Tryz.f228)
theorem Zgl:Zb prog 228 Zcq:=Z5 ⟨Zjd,Zs1,Zs2,ZFb,ZeT,Tv⟩ Tryz.func228 rfl (by kernel_rfl) Tryz.call228 trivial
def ZbD:En:=.tree (Zx (envX prog [(213,qAtE),(215,ZgL),(216,Zxu),(282,ZFt),(283,ZFG),(290,ZxV),(291,Zcf),(292,ZWN),(293,Znv),(294,ZNp),(295,ZNS),(296,ZNW),(297,ZNY),(298,ZMG)] [] 7069140681974987581262622498806463579024171163532525608263727578473562367 8) Tryz.f229)
theorem Ze7:Zb prog 229 ZbD:=Z5 ⟨Zjd,Zi7,Zs1,ZFs,ZFF,ZFb,ZeT,ZWM,ZAu,ZSe,ZSm,ZSo,ZSq,ZRZ,Tv⟩ Tryz.func229 rfl (by kernel_rfl) Tryz.call229 trivial
def ZbC:En:=.tree (Zx (envX prog [(215,ZgL),(284,Znw),(286,Zim),(291,Zcf),(299,Zn2)] [] 1300629477622019213679053869679119 8) Tryz.f230)
theorem Ze6:Zb prog 230 ZbC:=Z5 ⟨Zi7,Zs2,Znt,ZeT,ZA3,Tv⟩ Tryz.func230 rfl (by kernel_rfl) Tryz.call230 trivial
def Zb6:En:=.tree (Zx (envX prog [(213,qAtE),(215,ZgL),(291,Zcf),(301,ZCi),(302,ZCm),(303,ZBb)] [] 19808249554387950831669350527 8) Tryz.f233)
theorem ZfZ:Zb prog 233 Zb6:=Z5 ⟨Zjd,Zi7,ZeT,ZNM,ZN5,ZMQ,Tv⟩ Tryz.func233 rfl (by kernel_rfl) Tryz.call233 trivial
def Zdc:En:=.tree (Zx (envX prog [(227,Zjc),(228,Zcq),(229,ZbD),(230,ZbC),(231,ZMI),(232,ZMy),(233,Zb6)] [] 1299342484808491477133836286951679 8) Tryz.f156)
theorem Zfs:Zb prog 156 Zdc:=Z5 ⟨Zre,Zgl,Ze7,Ze6,ZR1,ZRV,ZfZ,Tv⟩ Tryz.func156 rfl (by kernel_rfl) Tryz.call156 trivial
abbrev ZS:List Sh:=[Sh.agg Z8,So Kc,So (R.sl Ka),Sh.agg (R.Pq R.bool (R.Pq R.bool rcF7))]
def ZWJ (k:Int):List (FuncId×En):=[(150,ZdS k),(151,ZkB),(155,ZxO),(156,Zdc)]
theorem ZSi (k:Int):Zd5 prog (ZWJ k):=⟨(Zgk k),Zlm,ZAW,Zfs,Tv⟩
abbrev EV0 (k:Int) (a:HL ZS):=Zha (envX prog (ZWJ k) [] 1023 8) Tryz.f85 ZS ZMx a
