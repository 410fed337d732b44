import Derived.Test.YtpnjbfjomebppaaGreatPinsEq
open Go.Proofs.Tryz (prog)
open Go.IntKind (u8 u16 i64)
set_option linter.unusedSimpArgs false
open Go Go.S3 Go.Proofs
set_option linter.unusedVariables false
set_option maxRecDepth 100000
namespace Go.Proofs.YtpnjbfjomebppaaGreat
noncomputable section
def ZdA (k:Int):En:=.tree (Zz (envX prog [(154,Zxp k),(213,qAtE)] [] 255 8) Tryz.f150)
theorem ZfJ (k:Int):Zb prog 150 (ZdA k):=Z6 (P:=prog) (n:=255) (k:=8) (l:=[(154,Zxp k),(213,qAtE)]) (ol:=[]) ⟨(ZER k),ZiR,Tv⟩ Tryz.func150 rfl (by kernel_rfl) Tryz.call150 trivial
def Zm:En:=.tree (Zz (envX prog [] [] 255 8) Tryz.f214)
theorem ZR:Zb prog 214 Zm:=Z6 trivial Tryz.func214 rfl (by kernel_rfl) Tryz.call214 trivial
def Zbl:En:=.tree (Zz (envX prog [(214,Zm)] [] 15 8) Tryz.f152)
theorem Zc6:Zb prog 152 Zbl:=Z6 ⟨ZR,Tv⟩ Tryz.func152 rfl (by kernel_rfl) Tryz.call152 trivial
def Zw:En:=.tree (Zz (envX prog [(214,Zm)] [] 31 8) Tryz.f217)
theorem Zan:Zb prog 217 Zw:=Z6 ⟨ZR,Tv⟩ Tryz.func217 rfl (by kernel_rfl) Tryz.call217 trivial
def Zav:En:=.tree (Zz (envX prog [(214,Zm)] [] 63 8) Tryz.f221)
theorem ZcW:Zb prog 221 Zav:=Z6 ⟨ZR,Tv⟩ Tryz.func221 rfl (by kernel_rfl) Tryz.call221 trivial
def Za5:En:=.tree (Zz (envX prog [(214,Zm),(217,Zw),(221,Zav),(284,Zna)] [] 268570631 8) Tryz.f219)
theorem ZdR:Zb prog 219 Za5:=Z6 ⟨ZR,Zan,ZcW,Zsx,Tv⟩ Tryz.func219 rfl (by kernel_rfl) Tryz.call219 trivial
def Zco:En:=.tree (Zz (envX prog [(217,Zw),(286,Zh0)] [] 15 8) Tryz.f285)
theorem Zf5:Zb prog 285 Zco:=Z6 ⟨Zan,Zm8,Tv⟩ Tryz.func285 rfl (by kernel_rfl) Tryz.call285 trivial
def ZcI:En:=.tree (Zz (envX prog [(214,Zm)] [] 3 8) Tryz.f287)
theorem ZgI:Zb prog 287 ZcI:=Z6 ⟨ZR,Tv⟩ Tryz.func287 rfl (by kernel_rfl) Tryz.call287 trivial
def Zcp:En:=.tree (Zz (envX prog [(214,Zm)] [] 15 8) Tryz.f289)
theorem Zf6:Zb prog 289 Zcp:=Z6 ⟨ZR,Tv⟩ Tryz.func289 rfl (by kernel_rfl) Tryz.call289 trivial
def ZaT:En:=.tree (Zz (envX prog [(152,Zbl),(214,Zm),(215,Zgp),(217,Zw),(227,ZiQ),(285,Zco),(286,Zh0),(287,ZcI),(288,ZLW),(289,Zcp)] [] 1517844491342638470129438826421819271357141255 8) Tryz.f222)
theorem ZdD:Zb prog 222 ZaT:=Z6 ⟨Zc6,ZR,ZiL,Zan,ZqR,Zf5,Zm8,ZgI,ZQ4,Zf6,Tv⟩ Tryz.func222 rfl (by kernel_rfl) Tryz.call222 trivial
def ZdL:En:=.tree (Zz (envX prog [(213,qAtE),(214,Zm),(215,Zgp),(216,ZwL),(217,Zw),(218,Znb),(219,Za5),(220,Ztu),(221,Zav),(222,ZaT)] [] 2854495396045824897803138545268610783927869455 8) Tryz.f153)
theorem Zf7:Zb prog 153 ZdL:=Z6 ⟨ZiR,ZR,ZiL,Zsw,Zan,ZzK,ZdR,Zxj,ZcW,ZdD,Tv⟩ Tryz.func153 rfl (by kernel_rfl) Tryz.call153 trivial
abbrev Zv:List Sh:=[Sh.agg Zat,So Kc,So (R.sl Ka)]
abbrev ZBc:Rs:=Rs.tup [Sh.agg (RY),So R.bool]
def ZL5 (k:Int):List (FuncId×En):=[(150,ZdA k),(151,Zkg),(152,Zbl),(153,ZdL)]
theorem ZL4 (k:Int):ZdW prog (ZL5 k):=⟨(ZfJ k),Zk3,Zc6,Zf7,Tv⟩
abbrev EV1 (k:Int) (a:HL Zv):=ZgM (envX prog (ZL5 k) [] 1125900980585471 8) Tryz.f82 Zv ZBc a
