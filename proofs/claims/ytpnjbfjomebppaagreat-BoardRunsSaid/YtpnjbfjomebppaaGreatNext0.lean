import Derived.Test.YtpnjbfjomebppaaGreatPinsEq
open Go.Proofs.Tryz (prog)
open Go.IntKind (u8 u16 i64)
set_option linter.unusedSimpArgs false
open Go Go.S3 Go.Proofs
set_option linter.unusedVariables false
set_option maxRecDepth 100000
namespace Go.Proofs.YtpnjbfjomebppaaGreat
noncomputable section
def Zd3 (k:Int):En:=.tree (Zt (envX prog [(154,ZBU k),(213,qAtE)] [] 255 8) Tryz.f150)
theorem Zgr (k:Int):Za prog 150 (Zd3 k):=ZL (P:=prog) (n:=255) (k:=8) (l:=[(154,ZBU k),(213,qAtE)]) (ol:=[]) ⟨(ZLw k),ZjT,Tv⟩ Tryz.func150 rfl (by kernel_rfl) Tryz.call150 trivial
def Zl:En:=.tree (Zt (envX prog [] [] 255 8) Tryz.f214)
theorem Z0:Za prog 214 Zl:=ZL trivial Tryz.func214 rfl (by kernel_rfl) Tryz.call214 trivial
def Zby:En:=.tree (Zt (envX prog [(214,Zl)] [] 15 8) Tryz.f152)
theorem Zdu:Za prog 152 Zby:=ZL ⟨Z0,Tv⟩ Tryz.func152 rfl (by kernel_rfl) Tryz.call152 trivial
def ZC:En:=.tree (Zt (envX prog [(214,Zl)] [] 31 8) Tryz.f217)
theorem Zau:Za prog 217 ZC:=ZL ⟨Z0,Tv⟩ Tryz.func217 rfl (by kernel_rfl) Tryz.call217 trivial
def ZaB:En:=.tree (Zt (envX prog [(214,Zl)] [] 63 8) Tryz.f221)
theorem Zdh:Za prog 221 ZaB:=ZL ⟨Z0,Tv⟩ Tryz.func221 rfl (by kernel_rfl) Tryz.call221 trivial
def Zbc:En:=.tree (Zt (envX prog [(214,Zl),(217,ZC),(221,ZaB),(284,ZpB)] [] 268570631 8) Tryz.f219)
theorem Zeo:Za prog 219 Zbc:=ZL ⟨Z0,Zau,Zdh,ZwM,Tv⟩ Tryz.func219 rfl (by kernel_rfl) Tryz.call219 trivial
def ZcC:En:=.tree (Zt (envX prog [(217,ZC),(286,ZiU)] [] 15 8) Tryz.f285)
theorem ZgO:Za prog 285 ZcC:=ZL ⟨Zau,Zpz,Tv⟩ Tryz.func285 rfl (by kernel_rfl) Tryz.call285 trivial
def ZcW:En:=.tree (Zt (envX prog [(214,Zl)] [] 3 8) Tryz.f287)
theorem ZhC:Za prog 287 ZcW:=ZL ⟨Z0,Tv⟩ Tryz.func287 rfl (by kernel_rfl) Tryz.call287 trivial
def ZcD:En:=.tree (Zt (envX prog [(214,Zl)] [] 15 8) Tryz.f289)
theorem ZgP:Za prog 289 ZcD:=ZL ⟨Z0,Tv⟩ Tryz.func289 rfl (by kernel_rfl) Tryz.call289 trivial
def ZaZ:En:=.tree (Zt (envX prog [(152,Zby),(214,Zl),(215,Zhk),(217,ZC),(227,ZjS),(285,ZcC),(286,ZiU),(287,ZcW),(288,ZVu),(289,ZcD)] [] 1517844491342638470129438826421819271357141255 8) Tryz.f222)
theorem Zd7:Za prog 222 ZaZ:=ZL ⟨Zdu,Z0,ZjN,Zau,ZtN,ZgO,Zpz,ZhC,Z0K,ZgP,Tv⟩ Tryz.func222 rfl (by kernel_rfl) Tryz.call222 trivial
def Zeg:En:=.tree (Zt (envX prog [(213,qAtE),(214,Zl),(215,Zhk),(216,ZBf),(217,ZC),(218,ZpC),(219,Zbc),(220,ZxL),(221,ZaB),(222,ZaZ)] [] 2854495396045824897803138545268610783927869455 8) Tryz.f153)
theorem ZgQ:Za prog 153 Zeg:=ZL ⟨ZjT,Z0,ZjN,ZwL,Zau,ZFG,Zeo,ZBO,Zdh,Zd7,Tv⟩ Tryz.func153 rfl (by kernel_rfl) Tryz.call153 trivial
abbrev ZB:List Sh:=[Sh.agg Zq,So Kc,So (R.sl Ka)]
abbrev ZG7:Rs:=Rs.tup [Sh.agg (RY),So R.bool]
def ZVD (k:Int):List (FuncId×En):=[(150,Zd3 k),(151,Zlm),(152,Zby),(153,Zeg)]
theorem ZVC (k:Int):Zdp prog (ZVD k):=⟨(Zgr k),Zmc,Zdu,ZgQ,Tv⟩
abbrev EV1 (k:Int) (a:HL ZB):=Zft (envX prog (ZVD k) [] 1125900980585471 8) Tryz.f82 ZB ZG7 a
def Zo:En:=.tree (Zt (envX prog [] [] 255 8) Tryz.f327)
theorem Z7:Za prog 327 Zo:=ZL trivial Tryz.func327 rfl (by kernel_rfl) Tryz.call327 trivial
def Zaq:En:=.tree (Zt (envX prog [(327,Zo)] [] 15 8) Tryz.f247)
theorem ZbS:Za prog 247 Zaq:=ZL ⟨Z7,Tv⟩ Tryz.func247 rfl (by kernel_rfl) Tryz.call247 trivial
def ZV:En:=.tree (Zt (envX prog [(327,Zo)] [] 31 8) Tryz.f328)
theorem Zbl:Za prog 328 ZV:=ZL ⟨Z7,Tv⟩ Tryz.func328 rfl (by kernel_rfl) Tryz.call328 trivial
def ZaY:En:=.tree (Zt (envX prog [(327,Zo)] [] 31 8) Tryz.f329)
theorem Zd5:Za prog 329 ZaY:=ZL ⟨Z7,Tv⟩ Tryz.func329 rfl (by kernel_rfl) Tryz.call329 trivial
def ZaJ:En:=.tree (Zt (envX prog [(171,rOnE),(309,Zi1),(328,ZV)] [] 15 8) Tryz.f330)
theorem ZdH:Za prog 330 ZaJ:=ZL ⟨ZeI,Zrs,Zbl,Tv⟩ Tryz.func330 rfl (by kernel_rfl) Tryz.call330 trivial
def Zbb:En:=.tree (Zt (envX prog [(327,Zo)] [] 3 8) Tryz.f331)
theorem Zen:Za prog 331 Zbb:=ZL ⟨Z7,Tv⟩ Tryz.func331 rfl (by kernel_rfl) Tryz.call331 trivial
def Zcj:En:=.tree (Zt (envX prog [(171,rOnE),(239,mAtE),(243,Zid),(244,Zhe),(247,Zaq),(309,Zi1),(310,Zrq),(311,Zpt),(316,Zha),(325,Zpq),(327,Zo),(328,ZV),(329,ZaY),(330,ZaJ),(331,Zbb),(332,ZTe)] [] 546879438939764547011187383507185256060619065560359097919357232620146805215141852592455017411118079 8) Tryz.f248)
theorem Zd6:Za prog 248 Zcj:=ZL ⟨ZeI,ZCw,ZlA,ZjH,ZbS,Zrs,ZyM,Zv1,Zoy,ZjJ,Z7,Zbl,Zd5,ZdH,Zen,ZZT,Tv⟩ Tryz.func248 rfl (by kernel_rfl) Tryz.call248 trivial
def ZTp (k:Int):List (FuncId×En):=[(236,Zh3),(238,ZTX k),(247,Zaq),(248,Zcj)]
theorem ZTo (k:Int):Zdp prog (ZTp k):=⟨Zhh,(ZKq k),ZbS,Zd6,Tv⟩
abbrev EV3 (k:Int) (a:HL ZB):=Zft (envX prog (ZTp k) [] 2047 8) Tryz.f166 ZB ZG7 a
