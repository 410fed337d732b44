import Derived.Test.YtpnjbfjomebppaaGreatPinsEq
open Go.Proofs.Tryz (prog)
open Go.IntKind (u8 u16 i64)
set_option linter.unusedSimpArgs false
open Go Go.S3 Go.Proofs
set_option linter.unusedVariables false
set_option maxRecDepth 100000
namespace Go.Proofs.YtpnjbfjomebppaaGreat
noncomputable section
def ZdF (k:Int):En:=.tree (Zx (envX prog [(154,Zya k),(213,qAtE)] [] 255 8) Tryz.f150)
theorem ZfY (k:Int):Zb prog 150 (ZdF k):=Z5 (P:=prog) (n:=255) (k:=8) (l:=[(154,Zya k),(213,qAtE)]) (ol:=[]) ⟨(ZFD k),Zjd,Tv⟩ Tryz.func150 rfl (by kernel_rfl) Tryz.call150 trivial
def Zm:En:=.tree (Zx (envX prog [] [] 255 8) Tryz.f214)
theorem ZU:Zb prog 214 Zm:=Z5 trivial Tryz.func214 rfl (by kernel_rfl) Tryz.call214 trivial
def Zbr:En:=.tree (Zx (envX prog [(214,Zm)] [] 15 8) Tryz.f152)
theorem Zdb:Zb prog 152 Zbr:=Z5 ⟨ZU,Tv⟩ Tryz.func152 rfl (by kernel_rfl) Tryz.call152 trivial
def Zw:En:=.tree (Zx (envX prog [(214,Zm)] [] 31 8) Tryz.f217)
theorem Zaq:Zb prog 217 Zw:=Z5 ⟨ZU,Tv⟩ Tryz.func217 rfl (by kernel_rfl) Tryz.call217 trivial
def Zax:En:=.tree (Zx (envX prog [(214,Zm)] [] 63 8) Tryz.f221)
theorem ZcY:Zb prog 221 Zax:=Z5 ⟨ZU,Tv⟩ Tryz.func221 rfl (by kernel_rfl) Tryz.call221 trivial
def Za9:En:=.tree (Zx (envX prog [(214,Zm),(217,Zw),(221,Zax),(284,Znw)] [] 268570631 8) Tryz.f219)
theorem Zd0:Zb prog 219 Za9:=Z5 ⟨ZU,Zaq,ZcY,Zs2,Tv⟩ Tryz.func219 rfl (by kernel_rfl) Tryz.call219 trivial
def Zcr:En:=.tree (Zx (envX prog [(217,Zw),(286,Zim)] [] 15 8) Tryz.f285)
theorem Zgm:Zb prog 285 Zcr:=Z5 ⟨Zaq,Znt,Tv⟩ Tryz.func285 rfl (by kernel_rfl) Tryz.call285 trivial
def ZcK:En:=.tree (Zx (envX prog [(214,Zm)] [] 3 8) Tryz.f287)
theorem Zg5:Zb prog 287 ZcK:=Z5 ⟨ZU,Tv⟩ Tryz.func287 rfl (by kernel_rfl) Tryz.call287 trivial
def Zcs:En:=.tree (Zx (envX prog [(214,Zm)] [] 15 8) Tryz.f289)
theorem Zgn:Zb prog 289 Zcs:=Z5 ⟨ZU,Tv⟩ Tryz.func289 rfl (by kernel_rfl) Tryz.call289 trivial
def ZaZ:En:=.tree (Zx (envX prog [(152,Zbr),(214,Zm),(215,ZgL),(217,Zw),(227,Zjc),(285,Zcr),(286,Zim),(287,ZcK),(288,ZM1),(289,Zcs)] [] 1517844491342638470129438826421819271357141255 8) Tryz.f222)
theorem ZdK:Zb prog 222 ZaZ:=Z5 ⟨Zdb,ZU,Zi7,Zaq,Zre,Zgm,Znt,Zg5,ZR9,Zgn,Tv⟩ Tryz.func222 rfl (by kernel_rfl) Tryz.call222 trivial
def ZdT:En:=.tree (Zx (envX prog [(213,qAtE),(214,Zm),(215,ZgL),(216,Zxu),(217,Zw),(218,Znx),(219,Za9),(220,Zt0),(221,Zax),(222,ZaZ)] [] 2854495396045824897803138545268610783927869455 8) Tryz.f153)
theorem Zgo:Zb prog 153 ZdT:=Z5 ⟨Zjd,ZU,Zi7,Zs1,Zaq,ZAw,Zd0,Zx4,ZcY,ZdK,Tv⟩ Tryz.func153 rfl (by kernel_rfl) Tryz.call153 trivial
abbrev Zu:List Sh:=[Sh.agg Z8,So Kc,So (R.sl Ka)]
abbrev ZBW:Rs:=Rs.tup [Sh.agg (RY),So R.bool]
def ZNa (k:Int):List (FuncId×En):=[(150,ZdF k),(151,ZkB),(152,Zbr),(153,ZdT)]
theorem ZM9 (k:Int):Zd5 prog (ZNa k):=⟨(ZfY k),Zlm,Zdb,Zgo,Tv⟩
abbrev EV1 (k:Int) (a:HL Zu):=Zha (envX prog (ZNa k) [] 1125900980585471 8) Tryz.f82 Zu ZBW a
