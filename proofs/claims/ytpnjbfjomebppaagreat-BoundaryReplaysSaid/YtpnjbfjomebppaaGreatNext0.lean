import Derived.Test.YtpnjbfjomebppaaGreatPinsEq
open Go.Proofs.Tryz (prog)
open Go.IntKind (u8 u16 i64)
set_option linter.unusedSimpArgs false
open Go Go.S3 Go.Proofs
set_option linter.unusedVariables false
set_option maxRecDepth 100000
namespace Go.Proofs.YtpnjbfjomebppaaGreat
noncomputable section
def Zdb (k:Int):En:=.tree (ZM (envX prog [(154,Zy7 k),(213,qAtE)] [] 255 8) Tryz.f150)
theorem Zft (k:Int):Za prog 150 (Zdb k):=Zad (P:=prog) (n:=255) (k:=8) (l:=[(154,Zy7 k),(213,qAtE)]) (ol:=[]) ⟨(ZHF k),Zi2,Tv⟩ Tryz.func150 rfl (by kernel_rfl) Tryz.call150 trivial
def Zk:En:=.tree (ZM (envX prog [] [] 255 8) Tryz.f214)
theorem ZV:Za prog 214 Zk:=Zad trivial Tryz.func214 rfl (by kernel_rfl) Tryz.call214 trivial
def Zbd:En:=.tree (ZM (envX prog [(214,Zk)] [] 15 8) Tryz.f152)
theorem ZcD:Za prog 152 Zbd:=Zad ⟨ZV,Tv⟩ Tryz.func152 rfl (by kernel_rfl) Tryz.call152 trivial
def Zz:En:=.tree (ZM (envX prog [(214,Zk)] [] 31 8) Tryz.f217)
theorem Zah:Za prog 217 Zz:=Zad ⟨ZV,Tv⟩ Tryz.func217 rfl (by kernel_rfl) Tryz.call217 trivial
def Zar:En:=.tree (ZM (envX prog [(214,Zk)] [] 63 8) Tryz.f221)
theorem Zcr:Za prog 221 Zar:=Zad ⟨ZV,Tv⟩ Tryz.func221 rfl (by kernel_rfl) Tryz.call221 trivial
def ZaX:En:=.tree (ZM (envX prog [(214,Zk),(217,Zz),(221,Zar),(284,Zn1)] [] 268570631 8) Tryz.f219)
theorem Zdy:Za prog 219 ZaX:=Zad ⟨ZV,Zah,Zcr,ZuG,Tv⟩ Tryz.func219 rfl (by kernel_rfl) Tryz.call219 trivial
def ZbZ:En:=.tree (ZM (envX prog [(217,Zz),(286,ZhY)] [] 15 8) Tryz.f285)
theorem ZfQ:Za prog 285 ZbZ:=Zad ⟨Zah,ZnZ,Tv⟩ Tryz.func285 rfl (by kernel_rfl) Tryz.call285 trivial
def Zcc:En:=.tree (ZM (envX prog [(214,Zk)] [] 3 8) Tryz.f287)
theorem ZgI:Za prog 287 Zcc:=Zad ⟨ZV,Tv⟩ Tryz.func287 rfl (by kernel_rfl) Tryz.call287 trivial
def Zb0:En:=.tree (ZM (envX prog [(214,Zk)] [] 15 8) Tryz.f289)
theorem ZfR:Za prog 289 Zb0:=Zad ⟨ZV,Tv⟩ Tryz.func289 rfl (by kernel_rfl) Tryz.call289 trivial
def ZaP:En:=.tree (ZM (envX prog [(152,Zbd),(214,Zk),(215,Zgo),(217,Zz),(227,Zi1),(285,ZbZ),(286,ZhY),(287,Zcc),(288,ZQA),(289,Zb0)] [] 1517844491342638470129438826421819271357141255 8) Tryz.f222)
theorem Zdh:Za prog 222 ZaP:=Zad ⟨ZcD,ZV,ZiW,Zah,ZrL,ZfQ,ZnZ,ZgI,ZU7,ZfR,Tv⟩ Tryz.func222 rfl (by kernel_rfl) Tryz.call222 trivial
def Zdq:En:=.tree (ZM (envX prog [(213,qAtE),(214,Zk),(215,Zgo),(216,ZyJ),(217,Zz),(218,Zn2),(219,ZaX),(220,Zvg),(221,Zar),(222,ZaP)] [] 2854495396045824897803138545268610783927869455 8) Tryz.f153)
theorem ZfS:Za prog 153 Zdq:=Zad ⟨Zi2,ZV,ZiW,ZuF,Zah,ZCM,Zdy,Zy3,Zcr,Zdh,Tv⟩ Tryz.func153 rfl (by kernel_rfl) Tryz.call153 trivial
abbrev Zy:List Sh:=[Sh.agg Zr,So Kc,So (R.sl Ka)]
abbrev ZDO:Rs:=Rs.tup [Sh.agg (RY),So R.bool]
def ZQJ (k:Int):List (FuncId×En):=[(150,Zdb k),(151,Zke),(152,Zbd),(153,Zdq)]
theorem ZQI (k:Int):Zc3 prog (ZQJ k):=⟨(Zft k),ZkX,ZcD,ZfS,Tv⟩
abbrev EV1 (k:Int) (a:HL Zy):=Zez (envX prog (ZQJ k) [] 1125900980585471 8) Tryz.f82 Zy ZDO a
def Zn:En:=.tree (ZM (envX prog [] [] 255 8) Tryz.f327)
theorem ZZ:Za prog 327 Zn:=Zad trivial Tryz.func327 rfl (by kernel_rfl) Tryz.call327 trivial
def Zae:En:=.tree (ZM (envX prog [(327,Zn)] [] 15 8) Tryz.f247)
theorem Zbq:Za prog 247 Zae:=Zad ⟨ZZ,Tv⟩ Tryz.func247 rfl (by kernel_rfl) Tryz.call247 trivial
def ZO:En:=.tree (ZM (envX prog [(327,Zn)] [] 31 8) Tryz.f328)
theorem Za5:Za prog 328 ZO:=Zad ⟨ZZ,Tv⟩ Tryz.func328 rfl (by kernel_rfl) Tryz.call328 trivial
def ZaO:En:=.tree (ZM (envX prog [(327,Zn)] [] 31 8) Tryz.f329)
theorem Zdf:Za prog 329 ZaO:=Zad ⟨ZZ,Tv⟩ Tryz.func329 rfl (by kernel_rfl) Tryz.call329 trivial
def ZaA:En:=.tree (ZM (envX prog [(171,rOnE),(309,Zh5),(328,ZO)] [] 15 8) Tryz.f330)
theorem ZcU:Za prog 330 ZaA:=Zad ⟨ZdZ,Zpt,Za5,Tv⟩ Tryz.func330 rfl (by kernel_rfl) Tryz.call330 trivial
def ZaW:En:=.tree (ZM (envX prog [(327,Zn)] [] 3 8) Tryz.f331)
theorem Zdx:Za prog 331 ZaW:=Zad ⟨ZZ,Tv⟩ Tryz.func331 rfl (by kernel_rfl) Tryz.call331 trivial
def ZbJ:En:=.tree (ZM (envX prog [(171,rOnE),(239,mAtE),(243,Zhh),(244,Zgi),(247,Zae),(309,Zh5),(310,Zpr),(311,ZnT),(316,Zge),(325,ZnQ),(327,Zn),(328,ZO),(329,ZaO),(330,ZaA),(331,ZaW),(332,ZOS)] [] 546879438939764547011187383507185256060619065560359097919357232620146805215141852592455017411118079 8) Tryz.f248)
theorem Zdg:Za prog 248 ZbJ:=Zad ⟨ZdZ,ZzC,Zkr,ZiO,Zbq,Zpt,Zwf,ZtU,Zm0,ZiR,ZZ,Za5,Zdf,ZcU,Zdx,ZUu,Tv⟩ Tryz.func248 rfl (by kernel_rfl) Tryz.call248 trivial
def ZO3 (k:Int):List (FuncId×En):=[(236,Zg5),(238,ZPD k),(247,Zae),(248,ZbJ)]
theorem ZO2 (k:Int):Zc3 prog (ZO3 k):=⟨Zgm,(ZG0 k),Zbq,Zdg,Tv⟩
abbrev EV3 (k:Int) (a:HL Zy):=Zez (envX prog (ZO3 k) [] 2047 8) Tryz.f166 Zy ZDO a
