import Derived.Test.YtpnjbfjomebppaaGreatPinsEq
open Go.Proofs.Tryz (prog)
open Go.IntKind (u8 u16 i64)
set_option linter.unusedSimpArgs false
open Go Go.S3 Go.Proofs
set_option linter.unusedVariables false
set_option maxRecDepth 100000
namespace Go.Proofs.YtpnjbfjomebppaaGreat
noncomputable section
def ZdC (k:Int):En:=.tree (Zr (envX prog [(154,ZxA k),(213,qAtE)] [] 255 8) Tryz.f150)
theorem ZfP (k:Int):Zb prog 150 (ZdC k):=ZL (P:=prog) (n:=255) (k:=8) (l:=[(154,ZxA k),(213,qAtE)]) (ol:=[]) ⟨(ZEN k),Zi1,Tv⟩ Tryz.func150 rfl (by kernel_rfl) Tryz.call150 trivial
def Zk:En:=.tree (Zr (envX prog [] [] 255 8) Tryz.f214)
theorem ZM:Zb prog 214 Zk:=ZL (P:=prog) (n:=255) (k:=8) (l:=[]) (ol:=[]) trivial Tryz.func214 rfl (by kernel_rfl) Tryz.call214 trivial
def Zbr:En:=.tree (Zr (envX prog [(214,Zk)] [] 15 8) Tryz.f152)
theorem Zdb:Zb prog 152 Zbr:=ZL (P:=prog) (n:=15) (k:=8) (l:=[(214,Zk)]) (ol:=[]) ⟨ZM,Tv⟩ Tryz.func152 rfl (by kernel_rfl) Tryz.call152 trivial
def Zu:En:=.tree (Zr (envX prog [(214,Zk)] [] 31 8) Tryz.f217)
theorem Zap:Zb prog 217 Zu:=ZL (P:=prog) (n:=31) (k:=8) (l:=[(214,Zk)]) (ol:=[]) ⟨ZM,Tv⟩ Tryz.func217 rfl (by kernel_rfl) Tryz.call217 trivial
def Zaw:En:=.tree (Zr (envX prog [(214,Zk)] [] 63 8) Tryz.f221)
theorem ZcZ:Zb prog 221 Zaw:=ZL (P:=prog) (n:=63) (k:=8) (l:=[(214,Zk)]) (ol:=[]) ⟨ZM,Tv⟩ Tryz.func221 rfl (by kernel_rfl) Tryz.call221 trivial
def Za7:En:=.tree (Zr (envX prog [(214,Zk),(217,Zu),(221,Zaw),(284,Zm7)] [] 268570631 8) Tryz.f219)
theorem ZdW:Zb prog 219 Za7:=ZL (P:=prog) (n:=268570631) (k:=8) (l:=[(214,Zk),(217,Zu),(221,Zaw),(284,Zm7)]) (ol:=[]) ⟨ZM,Zap,ZcZ,ZsA,Tv⟩ Tryz.func219 rfl (by kernel_rfl) Tryz.call219 trivial
def Zct:En:=.tree (Zr (envX prog [(217,Zu),(286,Zic)] [] 15 8) Tryz.f285)
theorem Zgg:Zb prog 285 Zct:=ZL (P:=prog) (n:=15) (k:=8) (l:=[(217,Zu),(286,Zic)]) (ol:=[]) ⟨Zap,Zm5,Tv⟩ Tryz.func285 rfl (by kernel_rfl) Tryz.call285 trivial
def ZcO:En:=.tree (Zr (envX prog [(214,Zk)] [] 3 8) Tryz.f287)
theorem ZgX:Zb prog 287 ZcO:=ZL (P:=prog) (n:=3) (k:=8) (l:=[(214,Zk)]) (ol:=[]) ⟨ZM,Tv⟩ Tryz.func287 rfl (by kernel_rfl) Tryz.call287 trivial
def Zcu:En:=.tree (Zr (envX prog [(214,Zk)] [] 15 8) Tryz.f289)
theorem Zgh:Zb prog 289 Zcu:=ZL (P:=prog) (n:=15) (k:=8) (l:=[(214,Zk)]) (ol:=[]) ⟨ZM,Tv⟩ Tryz.func289 rfl (by kernel_rfl) Tryz.call289 trivial
def ZaX:En:=.tree (Zr (envX prog [(152,Zbr),(214,Zk),(215,ZgD),(217,Zu),(227,Zi0),(285,Zct),(286,Zic),(287,ZcO),(288,ZLT),(289,Zcu)] [] 1517844491342638470129438826421819271357141255 8) Tryz.f222)
theorem ZdF:Zb prog 222 ZaX:=ZL (P:=prog) (n:=1517844491342638470129438826421819271357141255) (k:=8) (l:=[(152,Zbr),(214,Zk),(215,ZgD),(217,Zu),(227,Zi0),(285,Zct),(286,Zic),(287,ZcO),(288,ZLT),(289,Zcu)]) (ol:=[]) ⟨Zdb,ZM,ZiV,Zap,ZqG,Zgg,Zm5,ZgX,ZQI,Zgh,Tv⟩ Tryz.func222 rfl (by kernel_rfl) Tryz.call222 trivial
def ZdP:En:=.tree (Zr (envX prog [(213,qAtE),(214,Zk),(215,ZgD),(216,ZwS),(217,Zu),(218,Zm8),(219,Za7),(220,Zty),(221,Zaw),(222,ZaX)] [] 2854495396045824897803138545268610783927869455 8) Tryz.f153)
theorem Zgi:Zb prog 153 ZdP:=ZL (P:=prog) (n:=2854495396045824897803138545268610783927869455) (k:=8) (l:=[(213,qAtE),(214,Zk),(215,ZgD),(216,ZwS),(217,Zu),(218,Zm8),(219,Za7),(220,Zty),(221,Zaw),(222,ZaX)]) (ol:=[]) ⟨Zi1,ZM,ZiV,Zsz,Zap,ZzV,ZdW,Zxu,ZcZ,ZdF,Tv⟩ Tryz.func153 rfl (by kernel_rfl) Tryz.call153 trivial
abbrev Zt:List Sh:=[Sh.agg ZY,Sh.one (R.int i64),Sh.one (R.sl (R.int u8))]
abbrev ZBg:Rs:=Rs.tup [Sh.agg (RY),Sh.one R.bool]
def ZL2 (k:Int):List (FuncId×En):=[(150,ZdC k),(151,Zkp),(152,Zbr),(153,ZdP)]
theorem ZL1 (k:Int):Zd1 prog (ZL2 k):=⟨(ZfP k),Zk6,Zdb,Zgi,Tv⟩
abbrev EV1 (k:Int) (a:HL Zt):=Zg1 (envX prog (ZL2 k) [] 1125900980585471 8) Tryz.f82 Zt ZBg a
end
end Go.Proofs.YtpnjbfjomebppaaGreat
