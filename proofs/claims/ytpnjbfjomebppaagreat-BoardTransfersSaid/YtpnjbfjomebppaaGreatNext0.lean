import Derived.Test.YtpnjbfjomebppaaGreatPinsEq
open Go.Proofs.Tryz (prog)
open Go.IntKind (u8 u16 i64)
set_option linter.unusedSimpArgs false
open Go Go.S3 Go.Proofs
set_option linter.unusedVariables false
set_option maxRecDepth 100000
namespace Go.Proofs.YtpnjbfjomebppaaGreat
noncomputable section
def Zdy (k:Int):En:=.tree (ZA (envX prog [(154,ZxW k),(213,qAtE)] [] 255 8) Tryz.f150)
theorem Zf2 (k:Int):Zb prog 150 (Zdy k):=Z6 (P:=prog) (n:=255) (k:=8) (l:=[(154,ZxW k),(213,qAtE)]) (ol:=[]) ⟨(ZFc k),Zjh,Tv⟩ Tryz.func150 rfl (by kernel_rfl) Tryz.call150 trivial
def Zp:En:=.tree (ZA (envX prog [] [] 255 8) Tryz.f214)
theorem ZQ:Zb prog 214 Zp:=Z6 trivial Tryz.func214 rfl (by kernel_rfl) Tryz.call214 trivial
def Zbs:En:=.tree (ZA (envX prog [(214,Zp)] [] 15 8) Tryz.f152)
theorem Zc6:Zb prog 152 Zbs:=Z6 ⟨ZQ,Tv⟩ Tryz.func152 rfl (by kernel_rfl) Tryz.call152 trivial
def Zw:En:=.tree (ZA (envX prog [(214,Zp)] [] 31 8) Tryz.f217)
theorem Zan:Zb prog 217 Zw:=Z6 ⟨ZQ,Tv⟩ Tryz.func217 rfl (by kernel_rfl) Tryz.call217 trivial
def Zau:En:=.tree (ZA (envX prog [(214,Zp)] [] 63 8) Tryz.f221)
theorem ZcT:Zb prog 221 Zau:=Z6 ⟨ZQ,Tv⟩ Tryz.func221 rfl (by kernel_rfl) Tryz.call221 trivial
def Za7:En:=.tree (ZA (envX prog [(214,Zp),(217,Zw),(221,Zau),(284,Znm)] [] 268570631 8) Tryz.f219)
theorem ZdW:Zb prog 219 Za7:=Z6 ⟨ZQ,Zan,ZcT,ZsT,Tv⟩ Tryz.func219 rfl (by kernel_rfl) Tryz.call219 trivial
def Zct:En:=.tree (ZA (envX prog [(217,Zw),(286,Zio)] [] 15 8) Tryz.f285)
theorem Zgt:Zb prog 285 Zct:=Z6 ⟨Zan,Znk,Tv⟩ Tryz.func285 rfl (by kernel_rfl) Tryz.call285 trivial
def ZcL:En:=.tree (ZA (envX prog [(214,Zp)] [] 3 8) Tryz.f287)
theorem Zhc:Zb prog 287 ZcL:=Z6 ⟨ZQ,Tv⟩ Tryz.func287 rfl (by kernel_rfl) Tryz.call287 trivial
def Zcu:En:=.tree (ZA (envX prog [(214,Zp)] [] 15 8) Tryz.f289)
theorem Zgu:Zb prog 289 Zcu:=Z6 ⟨ZQ,Tv⟩ Tryz.func289 rfl (by kernel_rfl) Tryz.call289 trivial
def ZaR:En:=.tree (ZA (envX prog [(152,Zbs),(214,Zp),(215,ZgR),(217,Zw),(227,Zjg),(285,Zct),(286,Zio),(287,ZcL),(288,ZMj),(289,Zcu)] [] 1517844491342638470129438826421819271357141255 8) Tryz.f222)
theorem ZdD:Zb prog 222 ZaR:=Z6 ⟨Zc6,ZQ,Zjb,Zan,Zq2,Zgt,Znk,Zhc,ZRi,Zgu,Tv⟩ Tryz.func222 rfl (by kernel_rfl) Tryz.call222 trivial
def ZdN:En:=.tree (ZA (envX prog [(213,qAtE),(214,Zp),(215,ZgR),(216,Zxh),(217,Zw),(218,Znn),(219,Za7),(220,ZtT),(221,Zau),(222,ZaR)] [] 2854495396045824897803138545268610783927869455 8) Tryz.f153)
theorem Zgv:Zb prog 153 ZdN:=Z6 ⟨Zjh,ZQ,Zjb,ZsS,Zan,Zz9,ZdW,ZxQ,ZcT,ZdD,Tv⟩ Tryz.func153 rfl (by kernel_rfl) Tryz.call153 trivial
abbrev Zv:List Sh:=[Sh.agg Z8,So Kc,So (R.sl Ka)]
abbrev ZBz:Rs:=Rs.tup [Sh.agg (RY),So R.bool]
def ZMs (k:Int):List (FuncId×En):=[(150,Zdy k),(151,Zky),(152,Zbs),(153,ZdN)]
theorem ZMr (k:Int):Zd1 prog (ZMs k):=⟨(Zf2 k),Zli,Zc6,Zgv,Tv⟩
abbrev EV1 (k:Int) (a:HL Zv):=Zhg (envX prog (ZMs k) [] 1125900980585471 8) Tryz.f82 Zv ZBz a
