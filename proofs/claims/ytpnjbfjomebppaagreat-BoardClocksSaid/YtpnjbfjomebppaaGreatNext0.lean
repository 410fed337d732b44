import Derived.Test.YtpnjbfjomebppaaGreatPinsEq
open Go.Proofs.Tryz (prog)
open Go.IntKind (u8 u16 i64)
set_option linter.unusedSimpArgs false
open Go Go.S3 Go.Proofs
set_option linter.unusedVariables false
set_option maxRecDepth 100000
namespace Go.Proofs.YtpnjbfjomebppaaGreat
noncomputable section
def Zd2 (k:Int):En:=.tree (Zq (envX prog [(154,ZBl k),(213,qAtE)] [] 255 8) Tryz.f150)
theorem Zgq (k:Int):Za prog 150 (Zd2 k):=ZD (P:=prog) (n:=255) (k:=8) (l:=[(154,ZBl k),(213,qAtE)]) (ol:=[]) ⟨(ZKJ k),ZjL,Tv⟩ Tryz.func150 rfl (by kernel_rfl) Tryz.call150 trivial
def Zl:En:=.tree (Zq (envX prog [] [] 255 8) Tryz.f214)
theorem ZV:Za prog 214 Zl:=ZD trivial Tryz.func214 rfl (by kernel_rfl) Tryz.call214 trivial
def ZbA:En:=.tree (Zq (envX prog [(214,Zl)] [] 15 8) Tryz.f152)
theorem Zdt:Za prog 152 ZbA:=ZD ⟨ZV,Tv⟩ Tryz.func152 rfl (by kernel_rfl) Tryz.call152 trivial
def ZB:En:=.tree (Zq (envX prog [(214,Zl)] [] 31 8) Tryz.f217)
theorem Zau:Za prog 217 ZB:=ZD ⟨ZV,Tv⟩ Tryz.func217 rfl (by kernel_rfl) Tryz.call217 trivial
def ZaC:En:=.tree (Zq (envX prog [(214,Zl)] [] 63 8) Tryz.f221)
theorem Zdi:Za prog 221 ZaC:=ZD ⟨ZV,Tv⟩ Tryz.func221 rfl (by kernel_rfl) Tryz.call221 trivial
def Zbc:En:=.tree (Zq (envX prog [(214,Zl),(217,ZB),(221,ZaC),(284,Zpd)] [] 268570631 8) Tryz.f219)
theorem Zem:Za prog 219 Zbc:=ZD ⟨ZV,Zau,Zdi,Zwk,Tv⟩ Tryz.func219 rfl (by kernel_rfl) Tryz.call219 trivial
def ZcF:En:=.tree (Zq (envX prog [(217,ZB),(286,ZiT)] [] 15 8) Tryz.f285)
theorem ZgQ:Za prog 285 ZcF:=ZD ⟨Zau,Zpb,Tv⟩ Tryz.func285 rfl (by kernel_rfl) Tryz.call285 trivial
def ZcZ:En:=.tree (Zq (envX prog [(214,Zl)] [] 3 8) Tryz.f287)
theorem ZhF:Za prog 287 ZcZ:=ZD ⟨ZV,Tv⟩ Tryz.func287 rfl (by kernel_rfl) Tryz.call287 trivial
def ZcG:En:=.tree (Zq (envX prog [(214,Zl)] [] 15 8) Tryz.f289)
theorem ZgR:Za prog 289 ZcG:=ZD ⟨ZV,Tv⟩ Tryz.func289 rfl (by kernel_rfl) Tryz.call289 trivial
def Za0:En:=.tree (Zq (envX prog [(152,ZbA),(214,Zl),(215,Zhk),(217,ZB),(227,ZjK),(285,ZcF),(286,ZiT),(287,ZcZ),(288,ZUt),(289,ZcG)] [] 1517844491342638470129438826421819271357141255 8) Tryz.f222)
theorem Zd6:Za prog 222 Za0:=ZD ⟨Zdt,ZV,ZjF,Zau,Zti,ZgQ,Zpb,ZhF,ZZL,ZgR,Tv⟩ Tryz.func222 rfl (by kernel_rfl) Tryz.call222 trivial
def Zed:En:=.tree (Zq (envX prog [(213,qAtE),(214,Zl),(215,Zhk),(216,ZAE),(217,ZB),(218,Zpe),(219,Zbc),(220,Zxh),(221,ZaC),(222,Za0)] [] 2854495396045824897803138545268610783927869455 8) Tryz.f153)
theorem ZgS:Za prog 153 Zed:=ZD ⟨ZjL,ZV,ZjF,Zwj,Zau,ZE1,Zem,ZBf,Zdi,Zd6,Tv⟩ Tryz.func153 rfl (by kernel_rfl) Tryz.call153 trivial
abbrev ZA:List Sh:=[Sh.agg Zu,So Kc,So (R.sl Ka)]
abbrev ZGn:Rs:=Rs.tup [Sh.agg (RY),So R.bool]
def ZUC (k:Int):List (FuncId×En):=[(150,Zd2 k),(151,Zlh),(152,ZbA),(153,Zed)]
theorem ZUB (k:Int):Zdp prog (ZUC k):=⟨(Zgq k),Zl6,Zdt,ZgS,Tv⟩
abbrev EV1 (k:Int) (a:HL ZA):=ZfF (envX prog (ZUC k) [] 1125900980585471 8) Tryz.f82 ZA ZGn a
def Zo:En:=.tree (Zq (envX prog [] [] 255 8) Tryz.f327)
theorem Z3:Za prog 327 Zo:=ZD trivial Tryz.func327 rfl (by kernel_rfl) Tryz.call327 trivial
def Zap:En:=.tree (Zq (envX prog [(327,Zo)] [] 15 8) Tryz.f247)
theorem ZbV:Za prog 247 Zap:=ZD ⟨Z3,Tv⟩ Tryz.func247 rfl (by kernel_rfl) Tryz.call247 trivial
def ZQ:En:=.tree (Zq (envX prog [(327,Zo)] [] 31 8) Tryz.f328)
theorem Zbk:Za prog 328 ZQ:=ZD ⟨Z3,Tv⟩ Tryz.func328 rfl (by kernel_rfl) Tryz.call328 trivial
def ZaZ:En:=.tree (Zq (envX prog [(327,Zo)] [] 31 8) Tryz.f329)
theorem Zd4:Za prog 329 ZaZ:=ZD ⟨Z3,Tv⟩ Tryz.func329 rfl (by kernel_rfl) Tryz.call329 trivial
def ZaK:En:=.tree (Zq (envX prog [(171,rOnE),(309,Zi0),(328,ZQ)] [] 15 8) Tryz.f330)
theorem ZdI:Za prog 330 ZaK:=ZD ⟨ZeK,Zq0,Zbk,Tv⟩ Tryz.func330 rfl (by kernel_rfl) Tryz.call330 trivial
def Zbb:En:=.tree (Zq (envX prog [(327,Zo)] [] 3 8) Tryz.f331)
theorem Zel:Za prog 331 Zbb:=ZD ⟨Z3,Tv⟩ Tryz.func331 rfl (by kernel_rfl) Tryz.call331 trivial
def Zck:En:=.tree (Zq (envX prog [(171,rOnE),(239,mAtE),(243,Zif),(244,Zhe),(247,Zap),(309,Zi0),(310,ZqY),(311,Zo5),(316,Zha),(325,Zo2),(327,Zo),(328,ZQ),(329,ZaZ),(330,ZaK),(331,Zbb),(332,ZSg)] [] 546879438939764547011187383507185256060619065560359097919357232620146805215141852592455017411118079 8) Tryz.f248)
theorem Zd5:Za prog 248 Zck:=ZD ⟨ZeK,ZBY,Zly,Zjz,ZbV,Zq0,Zyg,Zvy,Zod,ZjC,Z3,Zbk,Zd4,ZdI,Zel,ZYU,Tv⟩ Tryz.func248 rfl (by kernel_rfl) Tryz.call248 trivial
def ZSr (k:Int):List (FuncId×En):=[(236,Zh5),(238,ZSZ k),(247,Zap),(248,Zck)]
theorem ZSq (k:Int):Zdp prog (ZSr k):=⟨Zhh,(ZJD k),ZbV,Zd5,Tv⟩
abbrev EV3 (k:Int) (a:HL ZA):=ZfF (envX prog (ZSr k) [] 2047 8) Tryz.f166 ZA ZGn a
