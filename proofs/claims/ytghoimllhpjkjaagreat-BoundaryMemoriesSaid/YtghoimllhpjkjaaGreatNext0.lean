import Derived.Test.YtghoimllhpjkjaaGreatS3D
import Derived.Test.YtghoimllhpjkjaaGreatProg
import Derived.Test.YtghoimllhpjkjaaGreatPinsEq
open Go.Proofs.Tryz (prog)
open Go.IntKind (u8 u16 i64)
set_option linter.unusedSimpArgs false
open Go Go.S3 Go.Proofs
set_option linter.unusedVariables false
set_option maxRecDepth 100000
namespace Go.Proofs.YtghoimllhpjkjaaGreat
noncomputable section
def Zdr (k:Int):Entry:=.tree (ZS (envX prog [(182,Zx1 k),(222,qAtE)] [] 255 8) Tryz.f178)
theorem Zfy (k:Int):Za prog 178 (Zdr k):=Zas (P:=prog) (n:=255) (k:=8) (l:=[(182,Zx1 k),(222,qAtE)]) (ol:=[]) ⟨(ZGy k),ZiE,Tv⟩ Tryz.func178 rfl (by kernel_rfl) Tryz.call178 trivial
def Zq:Entry:=.tree (ZS (envX prog [] [] 255 8) Tryz.f230)
theorem ZY:Za prog 230 Zq:=Zas (P:=prog) (n:=255) (k:=8) (l:=[]) (ol:=[]) trivial Tryz.func230 rfl (by kernel_rfl) Tryz.call230 trivial
def Zbo:Entry:=.tree (ZS (envX prog [(230,Zq)] [] 15 8) Tryz.f180)
theorem ZcZ:Za prog 180 Zbo:=Zas (P:=prog) (n:=15) (k:=8) (l:=[(230,Zq)]) (ol:=[]) ⟨ZY,Tv⟩ Tryz.func180 rfl (by kernel_rfl) Tryz.call180 trivial
def ZD:Entry:=.tree (ZS (envX prog [(230,Zq)] [] 31 8) Tryz.f233)
theorem Zav:Za prog 233 ZD:=Zas (P:=prog) (n:=31) (k:=8) (l:=[(230,Zq)]) (ol:=[]) ⟨ZY,Tv⟩ Tryz.func233 rfl (by kernel_rfl) Tryz.call233 trivial
def Zaz:Entry:=.tree (ZS (envX prog [(230,Zq)] [] 63 8) Tryz.f237)
theorem ZcN:Za prog 237 Zaz:=Zas (P:=prog) (n:=63) (k:=8) (l:=[(230,Zq)]) (ol:=[]) ⟨ZY,Tv⟩ Tryz.func237 rfl (by kernel_rfl) Tryz.call237 trivial
def Za9:Entry:=.tree (ZS (envX prog [(230,Zq),(233,ZD),(237,Zaz),(270,Znt)] [] 268570631 8) Tryz.f235)
theorem ZdN:Za prog 235 Za9:=Zas (P:=prog) (n:=268570631) (k:=8) (l:=[(230,Zq),(233,ZD),(237,Zaz),(270,Znt)]) (ol:=[]) ⟨ZY,Zav,ZcN,ZtO,Tv⟩ Tryz.func235 rfl (by kernel_rfl) Tryz.call235 trivial
def Zci:Entry:=.tree (ZS (envX prog [(233,ZD),(280,ZhK)] [] 15 8) Tryz.f288)
theorem ZfT:Za prog 288 Zci:=Zas (P:=prog) (n:=15) (k:=8) (l:=[(233,ZD),(280,ZhK)]) (ol:=[]) ⟨Zav,Znr,Tv⟩ Tryz.func288 rfl (by kernel_rfl) Tryz.call288 trivial
def Zcw:Entry:=.tree (ZS (envX prog [(230,Zq)] [] 3 8) Tryz.f289)
theorem ZgC:Za prog 289 Zcw:=Zas (P:=prog) (n:=3) (k:=8) (l:=[(230,Zq)]) (ol:=[]) ⟨ZY,Tv⟩ Tryz.func289 rfl (by kernel_rfl) Tryz.call289 trivial
def Zcj:Entry:=.tree (ZS (envX prog [(230,Zq)] [] 15 8) Tryz.f291)
theorem ZfU:Za prog 291 Zcj:=Zas (P:=prog) (n:=15) (k:=8) (l:=[(230,Zq)]) (ol:=[]) ⟨ZY,Tv⟩ Tryz.func291 rfl (by kernel_rfl) Tryz.call291 trivial
def ZaY:Entry:=.tree (ZS (envX prog [(180,Zbo),(223,ZiD),(230,Zq),(231,Zgk),(233,ZD),(280,ZhK),(288,Zci),(289,Zcw),(290,ZPj),(291,Zcj)] [] 1517844491342638470129438826421819271357141255 8) Tryz.f238)
theorem Zdx:Za prog 238 ZaY:=Zas (P:=prog) (n:=1517844491342638470129438826421819271357141255) (k:=8) (l:=[(180,Zbo),(223,ZiD),(230,Zq),(231,Zgk),(233,ZD),(280,ZhK),(288,Zci),(289,Zcw),(290,ZPj),(291,Zcj)]) (ol:=[]) ⟨ZcZ,Zq0,ZY,Ziy,Zav,Znr,ZfT,ZgC,ZTF,ZfU,Tv⟩ Tryz.func238 rfl (by kernel_rfl) Tryz.call238 trivial
def ZdG:Entry:=.tree (ZS (envX prog [(222,qAtE),(230,Zq),(231,Zgk),(232,ZxD),(233,ZD),(234,Znu),(235,Za9),(236,Zup),(237,Zaz),(238,ZaY)] [] 2854495396045824897803138545268610783927869455 8) Tryz.f181)
theorem ZfV:Za prog 181 ZdG:=Zas (P:=prog) (n:=2854495396045824897803138545268610783927869455) (k:=8) (l:=[(222,qAtE),(230,Zq),(231,Zgk),(232,ZxD),(233,ZD),(234,Znu),(235,Za9),(236,Zup),(237,Zaz),(238,ZaY)]) (ol:=[]) ⟨ZiE,ZY,Ziy,ZtN,Zav,ZBz,ZdN,ZxX,ZcN,Zdx,Tv⟩ Tryz.func181 rfl (by kernel_rfl) Tryz.call181 trivial
abbrev Zl:List Sh:=[Sh.agg ZF,Sh.one (R.int i64),Sh.one (R.sl (R.int u8))]
abbrev ZH:Rs:=Rs.tup [Sh.agg (RY),Sh.one R.bool]
def Z8 (k:Int):List (FuncId×Entry):=[(176,ZjO),(178,Zdr k),(180,Zbo),(181,ZdG)]
theorem ZPr (k:Int):Zdk prog (Z8 k):=⟨Zkt,(Zfy k),ZcZ,ZfV,Tv⟩
def Zs:Entry:=.tree (ZS (envX prog [] [] 255 8) Tryz.f162)
theorem Zaa:Za prog 162 Zs:=Zas (P:=prog) (n:=255) (k:=8) (l:=[]) (ol:=[]) trivial Tryz.func162 rfl (by kernel_rfl) Tryz.call162 trivial
def Zaq:Entry:=.tree (ZS (envX prog [(162,Zs)] [] 15 8) Tryz.f105)
theorem ZbH:Za prog 105 Zaq:=Zas (P:=prog) (n:=15) (k:=8) (l:=[(162,Zs)]) (ol:=[]) ⟨Zaa,Tv⟩ Tryz.func105 rfl (by kernel_rfl) Tryz.call105 trivial
def ZT:Entry:=.tree (ZS (envX prog [(162,Zs)] [] 31 8) Tryz.f164)
theorem Zbi:Za prog 164 ZT:=Zas (P:=prog) (n:=31) (k:=8) (l:=[(162,Zs)]) (ol:=[]) ⟨Zaa,Tv⟩ Tryz.func164 rfl (by kernel_rfl) Tryz.call164 trivial
def ZaX:Entry:=.tree (ZS (envX prog [(162,Zs)] [] 31 8) Tryz.f167)
theorem Zdv:Za prog 167 ZaX:=Zas (P:=prog) (n:=31) (k:=8) (l:=[(162,Zs)]) (ol:=[]) ⟨Zaa,Tv⟩ Tryz.func167 rfl (by kernel_rfl) Tryz.call167 trivial
def ZaI:Entry:=.tree (ZS (envX prog [(146,rOnE),(164,ZT),(169,ZhQ)] [] 15 8) Tryz.f168)
theorem Zdc:Za prog 168 ZaI:=Zas (P:=prog) (n:=15) (k:=8) (l:=[(146,rOnE),(164,ZT),(169,ZhQ)]) (ol:=[]) ⟨Zee,Zbi,ZoV,Tv⟩ Tryz.func168 rfl (by kernel_rfl) Tryz.call168 trivial
def Za8:Entry:=.tree (ZS (envX prog [(162,Zs)] [] 3 8) Tryz.f170)
theorem ZdM:Za prog 170 Za8:=Zas (P:=prog) (n:=3) (k:=8) (l:=[(162,Zs)]) (ol:=[]) ⟨Zaa,Tv⟩ Tryz.func170 rfl (by kernel_rfl) Tryz.call170 trivial
def Zb1:Entry:=.tree (ZS (envX prog [(105,Zaq),(146,rOnE),(153,mAtE),(157,Zg8),(158,Zgf),(162,Zs),(163,Znl),(164,ZT),(165,ZoT),(166,Zgb),(167,ZaX),(168,ZaI),(169,ZhQ),(170,Za8),(171,ZND),(172,Zni)] [] 546879438939764547011187383507185256060619065560359097919357232620146805215141852592455017411118079 8) Tryz.f106)
theorem Zdw:Za prog 106 Zb1:=Zas (P:=prog) (n:=546879438939764547011187383507185256060619065560359097919357232620146805215141852592455017411118079) (k:=8) (l:=[(105,Zaq),(146,rOnE),(153,mAtE),(157,Zg8),(158,Zgf),(162,Zs),(163,Znl),(164,ZT),(165,ZoT),(166,Zgb),(167,ZaX),(168,ZaI),(169,ZhQ),(170,Za8),(171,ZND),(172,Zni)]) (ol:=[]) ⟨ZbH,Zee,Zyz,ZjY,Zit,Zaa,Zs3,Zbi,Zvl,Zmr,Zdv,Zdc,ZoV,ZdM,ZS4,Ziv,Tv⟩ Tryz.func106 rfl (by kernel_rfl) Tryz.call106 trivial
abbrev Zk:List Sh:=[Sh.agg ZF,Sh.one (R.int i64),Sh.one (R.sl (R.int u8))]
abbrev ZG:Rs:=Rs.tup [Sh.agg (RY),Sh.one R.bool]
def Z6 (k:Int):List (FuncId×Entry):=[(104,ZgY),(105,Zaq),(106,Zb1),(107,ZOm k)]
theorem ZNN (k:Int):Zdk prog (Z6 k):=⟨Zgi,ZbH,Zdw,(ZFP k),Tv⟩
end
end Go.Proofs.YtghoimllhpjkjaaGreat
