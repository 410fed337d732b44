import Derived.Test.YtpnjbfjomebppaaGreatPinsEq
open Go.Proofs.Tryz (prog)
open Go.IntKind (u8 u16 i64)
set_option linter.unusedSimpArgs false
open Go Go.S3 Go.Proofs
set_option linter.unusedVariables false
set_option maxRecDepth 100000
namespace Go.Proofs.YtpnjbfjomebppaaGreat
noncomputable section
def Zc6 (k:Int):En:=.tree (Zn (envX prog [(154,Zwc k),(213,qAtE)] [] 255 8) Tryz.f150)
theorem Zfb (k:Int):Za prog 150 (Zc6 k):=ZI (P:=prog) (n:=255) (k:=8) (l:=[(154,Zwc k),(213,qAtE)]) (ol:=[]) ⟨(ZD6 k),Zh3,Tv⟩ Tryz.func150 rfl (by kernel_rfl) Tryz.call150 trivial
def Zi:En:=.tree (Zn (envX prog [] [] 255 8) Tryz.f214)
theorem ZJ:Za prog 214 Zi:=ZI (P:=prog) (n:=255) (k:=8) (l:=[]) (ol:=[]) trivial Tryz.func214 rfl (by kernel_rfl) Tryz.call214 trivial
def Za5:En:=.tree (Zn (envX prog [(214,Zi)] [] 15 8) Tryz.f152)
theorem ZcC:Za prog 152 Za5:=ZI (P:=prog) (n:=15) (k:=8) (l:=[(214,Zi)]) (ol:=[]) ⟨ZJ,Tv⟩ Tryz.func152 rfl (by kernel_rfl) Tryz.call152 trivial
def Zr:En:=.tree (Zn (envX prog [(214,Zi)] [] 31 8) Tryz.f217)
theorem Zad:Za prog 217 Zr:=ZI (P:=prog) (n:=31) (k:=8) (l:=[(214,Zi)]) (ol:=[]) ⟨ZJ,Tv⟩ Tryz.func217 rfl (by kernel_rfl) Tryz.call217 trivial
def Zaj:En:=.tree (Zn (envX prog [(214,Zi)] [] 63 8) Tryz.f221)
theorem Zcr:Za prog 221 Zaj:=ZI (P:=prog) (n:=63) (k:=8) (l:=[(214,Zi)]) (ol:=[]) ⟨ZJ,Tv⟩ Tryz.func221 rfl (by kernel_rfl) Tryz.call221 trivial
def ZaN:En:=.tree (Zn (envX prog [(214,Zi),(217,Zr),(221,Zaj),(284,Zmo)] [] 268570631 8) Tryz.f219)
theorem Zdt:Za prog 219 ZaN:=ZI (P:=prog) (n:=268570631) (k:=8) (l:=[(214,Zi),(217,Zr),(221,Zaj),(284,Zmo)]) (ol:=[]) ⟨ZJ,Zad,Zcr,ZrN,Tv⟩ Tryz.func219 rfl (by kernel_rfl) Tryz.call219 trivial
def ZbY:En:=.tree (Zn (envX prog [(217,Zr),(286,Zhj)] [] 15 8) Tryz.f285)
theorem Zfz:Za prog 285 ZbY:=ZI (P:=prog) (n:=15) (k:=8) (l:=[(217,Zr),(286,Zhj)]) (ol:=[]) ⟨Zad,Zmm,Tv⟩ Tryz.func285 rfl (by kernel_rfl) Tryz.call285 trivial
def Zcc:En:=.tree (Zn (envX prog [(214,Zi)] [] 3 8) Tryz.f287)
theorem Zgc:Za prog 287 Zcc:=ZI (P:=prog) (n:=3) (k:=8) (l:=[(214,Zi)]) (ol:=[]) ⟨ZJ,Tv⟩ Tryz.func287 rfl (by kernel_rfl) Tryz.call287 trivial
def ZbZ:En:=.tree (Zn (envX prog [(214,Zi)] [] 15 8) Tryz.f289)
theorem ZfA:Za prog 289 ZbZ:=ZI (P:=prog) (n:=15) (k:=8) (l:=[(214,Zi)]) (ol:=[]) ⟨ZJ,Tv⟩ Tryz.func289 rfl (by kernel_rfl) Tryz.call289 trivial
def ZaC:En:=.tree (Zn (envX prog [(152,Za5),(214,Zi),(215,ZfS),(217,Zr),(227,Zh2),(285,ZbY),(286,Zhj),(287,Zcc),(288,ZLq),(289,ZbZ)] [] 1517844491342638470129438826421819271357141255 8) Tryz.f222)
theorem Zdb:Za prog 222 ZaC:=ZI (P:=prog) (n:=1517844491342638470129438826421819271357141255) (k:=8) (l:=[(152,Za5),(214,Zi),(215,ZfS),(217,Zr),(227,Zh2),(285,ZbY),(286,Zhj),(287,Zcc),(288,ZLq),(289,ZbZ)]) (ol:=[]) ⟨ZcC,ZJ,ZhX,Zad,Zp2,Zfz,Zmm,Zgc,ZP7,ZfA,Tv⟩ Tryz.func222 rfl (by kernel_rfl) Tryz.call222 trivial
def Zdk:En:=.tree (Zn (envX prog [(213,qAtE),(214,Zi),(215,ZfS),(216,Zvw),(217,Zr),(218,Zmp),(219,ZaN),(220,ZsN),(221,Zaj),(222,ZaC)] [] 2854495396045824897803138545268610783927869455 8) Tryz.f153)
theorem ZfB:Za prog 153 Zdk:=ZI (P:=prog) (n:=2854495396045824897803138545268610783927869455) (k:=8) (l:=[(213,qAtE),(214,Zi),(215,ZfS),(216,Zvw),(217,Zr),(218,Zmp),(219,ZaN),(220,ZsN),(221,Zaj),(222,ZaC)]) (ol:=[]) ⟨Zh3,ZJ,ZhX,ZrM,Zad,Zy6,Zdt,Zv6,Zcr,Zdb,Tv⟩ Tryz.func153 rfl (by kernel_rfl) Tryz.call153 trivial
abbrev Zq:List Sh:=[Sh.agg Z5,Sh.one (R.int i64),Sh.one (R.sl (R.int u8))]
abbrev ZAw:Rs:=Rs.tup [Sh.agg (RY),Sh.one R.bool]
def ZLz (k:Int):List (FuncId×En):=[(150,Zc6 k),(151,Zjc),(152,Za5),(153,Zdk)]
theorem ZLy (k:Int):Zc7 prog (ZLz k):=⟨(Zfb k),ZjU,ZcC,ZfB,Tv⟩
abbrev EV1 (k:Int) (a:HL Zq):=Zfi (envX prog (ZLz k) [] 1125900980585471 8) Tryz.f82 Zq ZAw a
def Zk:En:=.tree (Zn (envX prog [] [] 255 8) Tryz.f327)
theorem ZQ:Za prog 327 Zk:=ZI (P:=prog) (n:=255) (k:=8) (l:=[]) (ol:=[]) trivial Tryz.func327 rfl (by kernel_rfl) Tryz.call327 trivial
def Z9:En:=.tree (Zn (envX prog [(327,Zk)] [] 15 8) Tryz.f247)
theorem Zbp:Za prog 247 Z9:=ZI (P:=prog) (n:=15) (k:=8) (l:=[(327,Zk)]) (ol:=[]) ⟨ZQ,Tv⟩ Tryz.func247 rfl (by kernel_rfl) Tryz.call247 trivial
def ZE:En:=.tree (Zn (envX prog [(327,Zk)] [] 31 8) Tryz.f328)
theorem ZaU:Za prog 328 ZE:=ZI (P:=prog) (n:=31) (k:=8) (l:=[(327,Zk)]) (ol:=[]) ⟨ZQ,Tv⟩ Tryz.func328 rfl (by kernel_rfl) Tryz.call328 trivial
def ZaB:En:=.tree (Zn (envX prog [(327,Zk)] [] 31 8) Tryz.f329)
theorem Zc9:Za prog 329 ZaB:=ZI (P:=prog) (n:=31) (k:=8) (l:=[(327,Zk)]) (ol:=[]) ⟨ZQ,Tv⟩ Tryz.func329 rfl (by kernel_rfl) Tryz.call329 trivial
def Zas:En:=.tree (Zn (envX prog [(171,rOnE),(309,Zoe),(328,ZE)] [] 15 8) Tryz.f330)
theorem ZcP:Za prog 330 Zas:=ZI (P:=prog) (n:=15) (k:=8) (l:=[(171,rOnE),(309,Zoe),(328,ZE)]) (ol:=[]) ⟨ZpS,ZwI,ZaU,Tv⟩ Tryz.func330 rfl (by kernel_rfl) Tryz.call330 trivial
def ZaM:En:=.tree (Zn (envX prog [(327,Zk)] [] 3 8) Tryz.f331)
theorem Zds:Za prog 331 ZaM:=ZI (P:=prog) (n:=3) (k:=8) (l:=[(327,Zk)]) (ol:=[]) ⟨ZQ,Tv⟩ Tryz.func331 rfl (by kernel_rfl) Tryz.call331 trivial
def ZbH:En:=.tree (Zn (envX prog [(171,rOnE),(239,mAtE),(243,ZtS),(244,Zyg),(247,Z9),(309,Zoe),(310,ZM6),(311,ZJT),(316,ZlB),(325,ZpV),(327,Zk),(328,ZE),(329,ZaB),(330,Zas),(331,ZaM),(332,ZJs)] [] 546879438939764547011187383507185256060619065560359097919357232620146805215141852592455017411118079 8) Tryz.f248)
theorem Zda:Za prog 248 ZbH:=ZI (P:=prog) (n:=546879438939764547011187383507185256060619065560359097919357232620146805215141852592455017411118079) (k:=8) (l:=[(171,rOnE),(239,mAtE),(243,ZtS),(244,Zyg),(247,Z9),(309,Zoe),(310,ZM6),(311,ZJT),(316,ZlB),(325,ZpV),(327,Zk),(328,ZE),(329,ZaB),(330,Zas),(331,ZaM),(332,ZJs)]) (ol:=[]) ⟨ZpS,ZSD,ZHl,ZJo,Zbp,ZwI,ZQC,ZPp,Zx8,ZkC,ZQ,ZaU,Zc9,ZcP,Zds,ZPi,Tv⟩ Tryz.func248 rfl (by kernel_rfl) Tryz.call248 trivial
abbrev Zp:List Sh:=[Sh.agg Z5,Sh.one (R.int i64),Sh.one (R.sl (R.int u8))]
abbrev ZyZ:Rs:=Rs.tup [Sh.agg (RY),Sh.one R.bool]
def ZJF (k:Int):List (FuncId×En):=[(236,ZpW),(238,ZR3 k),(247,Z9),(248,ZbH)]
theorem ZJE (k:Int):Zc7 prog (ZJF k):=⟨Zvu,(ZPs k),Zbp,Zda,Tv⟩
abbrev EV2 (k:Int) (a:HL Zp):=Zfi (envX prog (ZJF k) [] 2047 8) Tryz.f166 Zp ZyZ a
end
end Go.Proofs.YtpnjbfjomebppaaGreat
